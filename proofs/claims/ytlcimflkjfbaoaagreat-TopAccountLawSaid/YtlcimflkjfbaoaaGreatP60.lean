/- Contracts of functions for this claim: lemmas alone. -/
import Derived.Test.YtlcimflkjfbaoaaGreatP17
import Derived.Sort.LotA
set_option linter.unusedSimpArgs false
set_option linter.unusedVariables false
namespace Go.Proofs.YtlcimflkjfbaoaaGreat
open Go Go.Fi
set_option maxRecDepth 20000

/-! ### the order by rests: ties by their numbers -/
def lessR {N : Nat} (rs : List Int) (a b : Fin (N + 1)) : Bool := decide (rs.getD b.val 0 < rs.getD a.val 0)
def lessT {N : Nat} (rs : List Int) (a b : Fin (N + 1)) : Bool := decide (rs.getD b.val 0 < rs.getD a.val 0 ∨ (rs.getD b.val 0 = rs.getD a.val 0 ∧ a.val < b.val))
theorem swoT {N : Nat} (rs : List Int) : Sort.SWO (lessT (N := N) rs) where
  irrefl x := by simp [lessT]
  trans x y z := by simp only [lessT, decide_eq_true_eq]; omega
  ntrans x y z := by simp only [lessT, decide_eq_false_iff_not]; omega
theorem inner_eq {N : Nat} (rs : List Int) (i : Nat) : ∀ (j : Nat) (d : Array (Fin (N + 1))), j ≤ i → i < d.size → (d[j]!).val = i → (∀ k, k < j → (d[k]!).val < i) → Sort.insInner (lessR rs) 0 j d = Sort.insInner (lessT rs) 0 j d
  | 0, d, _, _, _, _ => by unfold Sort.insInner; rfl
  | j + 1, d, hj, hs, hd, hk => by
    have h1 := hk j (by omega)
    have e : lessR rs d[j + 1]! d[j]! = lessT rs d[j + 1]! d[j]! := by
      unfold lessR lessT
      exact decide_eq_decide.2 (by omega)
    have g := Sort.swp_get d (i := j + 1) (j := j) (by omega) (by omega)
    unfold Sort.insInner
    rw [e]
    split
    · refine inner_eq rs i j _ (by omega) (by rw [Sort.swp_size]; exact hs) ?_ (fun k hk2 => ?_)
      · rw [g, if_pos rfl]; exact hd
      · rw [g, if_neg (by omega), if_neg (by omega)]; exact hk k (by omega)
    · rfl
theorem inner_keep {N : Nat} (lt : Fin (N + 1) → Fin (N + 1) → Bool) (i : Nat) : ∀ (j : Nat) (d : Array (Fin (N + 1))), j ≤ i → i < d.size → (∀ k, k ≤ i → (d[k]!).val ≤ i) → (∀ k, k ≤ i → ((Sort.insInner lt 0 j d)[k]!).val ≤ i) ∧ (∀ k, i < k → (Sort.insInner lt 0 j d)[k]! = d[k]!)
  | 0, d, _, _, h => by unfold Sort.insInner; exact ⟨h, fun _ _ => rfl⟩
  | j + 1, d, hj, hs, h => by
    have g := Sort.swp_get d (i := j + 1) (j := j) (by omega) (by omega)
    unfold Sort.insInner
    split
    · obtain ⟨h1, h2⟩ := inner_keep lt i j (Sort.swp d (j + 1) j) (by omega) (by rw [Sort.swp_size]; exact hs) (fun k hk => by
        rw [g]
        split
        · exact h _ (by omega)
        · split
          · exact h _ (by omega)
          · exact h k hk)
      exact ⟨h1, fun k hk => by rw [h2 k hk, g, if_neg (by omega), if_neg (by omega)]⟩
    · exact ⟨h, fun _ _ => rfl⟩
theorem outer_eq {N : Nat} (rs : List Int) (b : Nat) : ∀ (n i : Nat) (d : Array (Fin (N + 1))), b - i = n → d.size = b → (∀ k, k < i → (d[k]!).val < i) → (∀ k, i ≤ k → k < b → (d[k]!).val = k) → Sort.insOuter (lessR rs) 0 b i d = Sort.insOuter (lessT rs) 0 b i d
  | 0, i, d, hn, _, _, _ => by
    rw [Sort.insOuter, if_neg (by omega), Sort.insOuter, if_neg (by omega)]
  | n + 1, i, d, hn, hs, h1, h2 => by
    have hi : i < b := by omega
    have hii := h2 i (Nat.le_refl _) hi
    have e := inner_eq rs i i d (Nat.le_refl _) (by omega) hii h1
    obtain ⟨k1, k2⟩ := inner_keep (lessT rs) i i d (Nat.le_refl _) (by omega) (fun k hk => by
      rcases Nat.lt_or_eq_of_le hk with h | h
      · exact Nat.le_of_lt (h1 k h)
      · rw [h, hii]; exact Nat.le_refl _)
    have o1 : ∀ lt : Fin (N + 1) → Fin (N + 1) → Bool, Sort.insOuter lt 0 b i d = Sort.insOuter lt 0 b (i + 1) (Sort.insInner lt 0 i d) := fun lt => by rw [Sort.insOuter, if_pos hi]
    rw [o1, o1, e]
    exact outer_eq rs b n (i + 1) _ (by omega) (by rw [Go.Fi.insInner_size]; exact hs) (fun k hk => Nat.lt_succ_of_le (k1 k (by omega))) (fun k hk hb => by rw [k2 k (by omega)]; exact h2 k (by omega) hb)
theorem fin_get (N k : Nat) (h : k < N + 1) : (((List.finRange (N + 1)).toArray)[k]!).val = k := by
  rw [getElem!_pos _ k (by simpa using h)]
  simp
theorem sorted_eq (rs : List Int) (N : Nat) : sorted rs N = (Sort.insertionSort (lessT (N := N) rs) (List.finRange (N + 1)).toArray 0 (N + 1)).toList := by
  unfold sorted Sort.insertionSort
  have := outer_eq (N := N) rs (N + 1) N 1 (List.finRange (N + 1)).toArray (by omega) (by simp) (fun k hk => by rw [fin_get N k (by omega)]; omega) (fun k _ hk => fin_get N k hk)
  exact congrArg Array.toList this
theorem sorted_facts (rs : List Int) (N : Nat) : (sorted rs N).Perm (List.finRange (N + 1)) ∧ ∀ i j, i < j → j < N + 1 → lessT rs ((Sort.insertionSort (lessT (N := N) rs) (List.finRange (N + 1)).toArray 0 (N + 1))[j]!) ((Sort.insertionSort (lessT (N := N) rs) (List.finRange (N + 1)).toArray 0 (N + 1))[i]!) = false := by
  obtain ⟨⟨h1, _, h3⟩, h4⟩ := Sort.insertionSort_holds (lt := lessT (N := N) rs) (swoT rs) (List.finRange (N + 1)).toArray 0 (N + 1) (Nat.zero_le _) (by simp)
  refine ⟨?_, fun i j hij hj => h4 i j (Nat.zero_le _) hij hj⟩
  rw [sorted_eq]
  generalize Sort.insertionSort (lessT (N := N) rs) (List.finRange (N + 1)).toArray 0 (N + 1) = d at *
  have e1 : (d.extract 0 (N + 1)) = d := by
    have : d.size ≤ N + 1 := by rw [h1]; simp
    exact Array.extract_eq_self_of_le this
  have e2 : ((List.finRange (N + 1)).toArray.extract 0 (N + 1)) = (List.finRange (N + 1)).toArray := by
    have : (List.finRange (N + 1)).toArray.size ≤ N + 1 := by simp
    exact Array.extract_eq_self_of_le this
  rw [e1, e2] at h3
  simpa using h3
theorem nodup_fin (n : Nat) : (List.finRange n).Nodup := by
  rw [List.nodup_iff_pairwise_ne, List.pairwise_iff_getElem]
  intro i j hi hj hij h
  simp at h
  omega
theorem order_inj (rs : List Int) (N j k : Nat) (hjk : j < k) (hk : k < N + 1) : nth (orderN rs N) j ≠ nth (orderN rs N) k := by
  have hn : (sorted rs N).Nodup := (sorted_facts rs N).1.nodup_iff.2 (nodup_fin _)
  have hl := sorted_len rs N
  rw [List.nodup_iff_pairwise_ne, List.pairwise_iff_getElem] at hn
  have := hn j k (by omega) (by omega) hjk
  intro e
  apply this
  apply Fin.ext
  simpa [orderN, nth, List.getD_eq_getElem?_getD, List.getElem?_map, List.getElem?_eq_getElem, show j < (sorted rs N).length by omega, show k < (sorted rs N).length by omega] using e
/-! ### one after the other: the greatest rest first -/
def bestK (l : List Int) : Nat → Nat
  | 0 => 0
  | k + 1 => if nth l (bestK l k) < nth l k then k else bestK l k
@[simp] theorem bestK_one (l : List Int) : bestK l 1 = 0 := by
  unfold bestK bestK; split <;> rfl
def mark (l : List Int) : List Nat → List Int
  | [] => l
  | i :: r => mark (l.set i (-1)) r
@[simp] theorem mark_nil (l : List Int) : mark l [] = l := rfl
@[simp] theorem mark_len : ∀ (r : List Nat) (l : List Int), (mark l r).length = l.length
  | [], l => rfl
  | x :: r, l => by simp only [mark]; rw [mark_len r]; simp
theorem mem_take_order (rs : List Int) (N j i : Nat) (hj : j ≤ N + 1) : i ∈ (orderN rs N).take j ↔ ∃ k, k < j ∧ nth (orderN rs N) k = i := by
  have hl := orderN_len rs N
  constructor
  · intro h
    obtain ⟨k, hk, rfl⟩ := mem_nth h
    rw [take_len _ _ (by omega)] at hk
    exact ⟨k, hk, (nth_take _ _ _ hk).symm⟩
  · rintro ⟨k, hk, rfl⟩
    have hlt : k < ((orderN rs N).take j).length := by rw [take_len _ _ (by omega)]; exact hk
    rw [← nth_take _ _ _ hk]
    simp only [nth, List.getD_eq_getElem?_getD, List.getElem?_eq_getElem hlt, Option.getD_some]
    exact List.getElem_mem hlt
end Go.Proofs.YtlcimflkjfbaoaaGreat
namespace Go.Proofs.YtlcimflkjfbaoaaGreat
open Go Go.Fi
set_option maxRecDepth 20000

/-! ### any rule -/
def hasAll (l : List Acc) (r : Rule) : Prop := ∀ k, k < 5 → hasS l (nth (five r) k) = true
def apart (r : Rule) : Prop := ∀ k, k < 5 → Lib.containsS ((five r).take k) (nth (five r) k) = false
open Classical in
noncomputable def ruleS (l : List Acc) (r : Rule) : Int := if (accsS l).2 = 0 then (if hasAll l r then (if apart r then shareE (sharesOf r) else 26) else 6) else (accsS l).2
theorem ruleS_bad {l : List Acc} (r : Rule) (h : ¬ (accsS l).2 = 0) : ruleS l r = (accsS l).2 := if_neg h
theorem ruleS_miss {l : List Acc} {r : Rule} (h : (accsS l).2 = 0) (k : Nat) (hk : k < 5) (h1 : hasS l (nth (five r) k) = false) : ruleS l r = 6 := by
  unfold ruleS
  rw [if_pos h, if_neg (fun hh => by rw [hh k hk] at h1; cases h1)]
theorem ruleS_dup {l : List Acc} {r : Rule} (h : (accsS l).2 = 0) (ha : hasAll l r) (k : Nat) (hk : k < 5) (h1 : Lib.containsS ((five r).take k) (nth (five r) k) = true) : ruleS l r = 26 := by
  unfold ruleS
  rw [if_pos h, if_pos ha, if_neg (fun hh => by rw [hh k hk] at h1; cases h1)]
theorem ruleS_ok {l : List Acc} {r : Rule} (h : (accsS l).2 = 0) (ha : hasAll l r) (hb : apart r) : ruleS l r = shareE (sharesOf r) := by
  unfold ruleS
  rw [if_pos h, if_pos ha, if_pos hb]
theorem ruleS_zero {l : List Acc} {r : Rule} (h : ruleS l r = 0) : RuleOk l r ∧ shareE (sharesOf r) = 0 := by
  unfold ruleS at h
  split at h
  · rename_i h1
    split at h
    · rename_i h2
      split at h
      · rename_i h3; exact ⟨⟨h1, h2, h3⟩, h⟩
      · cases h
    · cases h
  · rename_i h1; exact absurd h h1
set_option maxHeartbeats 4000000 in
theorem checkRule_c (l : List Acc) (hl : AccsIn l) (r : Rule) : RealCall Tryz.prog 28 [.sl l.length (cAccs l), .agg (cRule r)] (.int .i64 (ruleS l r)) true := by
  have c1 := accountsErr_c l hl
  have hlen := hl.len
  clear hl
  by_cases h0 : (accsS l).2 = 0
  · rw [h0] at c1
    have q6 := fun k hk h1 => ruleS_miss (r := r) h0 k hk h1
    have q26 := fun ha k hk h1 => ruleS_dup (r := r) h0 ha k hk h1
    have q0 := fun ha hb => ruleS_ok (r := r) h0 ha hb
    have c3 := shareErr_c (sharesOf r) (show 3 < 100000 by decide)
    have e3 : ints (sharesOf r) = [.int .i64 r.s0, .int .i64 r.s1, .int .i64 r.s2] := rfl
    have e4 : (sharesOf r).length = 3 := rfl
    rw [e3, e4] at c3
    generalize shareE (sharesOf r) = E at *
    generalize ruleS l r = R at *
    clear e3 e4 h0
    have k6 := keep q6
    have k26 := keep q26
    have k0 := keep q0
    clear q6 q26 q0
    unfold cRule
    refine realcall_intro Tryz.func28 (by kernel_rfl) rfl (Nat.le_of_ble_eq_true (by kernel_rfl)) ?_
    simp only [Tryz.results28, Tryz.ntmps28]
    repeat' (first | (with_reducible first | refine awp_seq ?_ | refine awp_blockS ?_ | refine awp_blockC ?_ | refine awp_blockR ?_ | refine awp_skip ?_ | refine awp_ret ?_ | refine awp_exit ?_ | refine awp_region ?_ | refine awp_condM ?_ | refine And.intro ?_ ?_ | apply gQ_merge | apply gE_merge | exact EqV_w | exact EqE_w | exact EqV_ptr | exact EqE_ptr | exact EqV_msl | exact EqE_msl | exact EqV_agg | exact EqE_agg | exact EqV_fn | exact EqE_fn | exact EqV_gd | exact EqE_gd | refine gM_splitN ?_ ?_ | refine gM_split ?_ ?_ |  refine condM_splitDN ?_ ?_ | refine condM_splitD ?_ ?_ | refine condM_splitN ?_ ?_ | refine condM_split ?_ ?_ | refine condM_any ?_ ?_ | refine cw (c1) ?_ | intro _) | (simp [*, repl]) | (refine cw_eq (c1) ?_ ?_; (· (simp [*]; done))))
    refine awp_for3 (fun (k : Nat) => k ≤ 5 ∧ (∀ j, j < k → hasS l (nth (five r) j) = true)) [0, 3, 6, 27] (fun (k : Nat) => [(28, .w false false (.int .i64 k))]) [0, 1] (fun (k : Nat) => []) (fun (k : Nat) => 5 - k) (fun (_u : Unit) => hasAll l r) [3, 6] (fun (_u : Unit) => []) [0, 1] (fun (_u : Unit) => []) (0) ⟨Nat.zero_le _, fun j hj => absurd hj (Nat.not_lt_zero _)⟩ (by simp) (by simp) (fun k hk => ?_) (fun _u hf => ?_)
    · obtain ⟨hk, hj⟩ := hk
      have kj := keep hj
      clear hj
      by_cases hlt : k < 5
      · have c2 := has_c l (by omega) (nth (five r) k)
        have hg := five_get r k hlt
        cases hb : hasS l (nth (five r) k) with
        | true =>
          rw [hb] at c2
          have kj2 : Keep (∀ j, j < k + 1 → hasS l (nth (five r) j) = true) := keep (fun j hj => by
            rcases Nat.lt_or_eq_of_le (Nat.le_of_lt_succ hj) with h | h
            · exact (show ∀ j, j < k → hasS l (nth (five r) j) = true from kj) j h
            · rw [h]; exact hb)
          clear hb k6 k26 k0
          repeat' (first | (with_reducible first | refine awp_idx1 (j := k) (cs := [.w false false (.str r.owner), .w false false (.str r.driver), .w false false (.str r.office), .w false false (.str r.cash), .w false false (.str r.vouch)]) (k := 5) (e := 9) (d2 := 30) (x := 27) (i := 28) (ow := false) (fl := false) rfl Tryz.underlying133 (by simp) (by simp) (by simp) (by simp) hlt (by simpa using hlt) (by decide) ?_ | refine awp_seq ?_ | refine awp_blockS ?_ | refine awp_blockC ?_ | refine awp_blockR ?_ | refine awp_skip ?_ | refine awp_ret ?_ | refine awp_exit ?_ | refine awp_region ?_ | refine awp_condM ?_ | refine And.intro ?_ ?_ | apply gQ_merge | apply gE_merge | exact EqV_w | exact EqE_w | exact EqV_ptr | exact EqE_ptr | exact EqV_msl | exact EqE_msl | exact EqV_agg | exact EqE_agg | exact EqV_fn | exact EqE_fn | exact EqV_gd | exact EqE_gd | refine gM_splitN ?_ ?_ | refine gM_split ?_ ?_ |  refine condM_splitDN ?_ ?_ | refine condM_splitD ?_ ?_ | refine condM_splitN ?_ ?_ | refine condM_split ?_ ?_ | refine condM_any ?_ ?_ | refine cw (c2) ?_ | intro _) | (simp [*, hlt, hg]) | (refine cw_eq (c2) ?_ ?_; (· (simp [*]; done))))
          all_goals try first | exact inI64 (by omega) (by omega) | omega
          all_goals (refine loopK_normal _ _ _ _ _ (k + 1) _ ?_ (by first | omega | (dsimp only; omega) | (simp; omega)) ?_; (· exact ⟨by omega, kj2⟩); (refine le_of ?_ ?_ <;> first | trivial | (simp [*]; done)))
        | false =>
          rw [hb] at c2
          have hR := (show ∀ k, k < 5 → hasS l (nth (five r) k) = false → R = 6 from k6) k hlt hb
          subst hR
          clear hb k6 k26 k0
          repeat' (first | (with_reducible first | refine awp_idx1 (j := k) (cs := [.w false false (.str r.owner), .w false false (.str r.driver), .w false false (.str r.office), .w false false (.str r.cash), .w false false (.str r.vouch)]) (k := 5) (e := 9) (d2 := 30) (x := 27) (i := 28) (ow := false) (fl := false) rfl Tryz.underlying133 (by simp) (by simp) (by simp) (by simp) hlt (by simpa using hlt) (by decide) ?_ | refine awp_seq ?_ | refine awp_blockS ?_ | refine awp_blockC ?_ | refine awp_blockR ?_ | refine awp_skip ?_ | refine awp_ret ?_ | refine awp_exit ?_ | refine awp_region ?_ | refine awp_condM ?_ | refine And.intro ?_ ?_ | apply gQ_merge | apply gE_merge | exact EqV_w | exact EqE_w | exact EqV_ptr | exact EqE_ptr | exact EqV_msl | exact EqE_msl | exact EqV_agg | exact EqE_agg | exact EqV_fn | exact EqE_fn | exact EqV_gd | exact EqE_gd | refine gM_splitN ?_ ?_ | refine gM_split ?_ ?_ |  refine condM_splitDN ?_ ?_ | refine condM_splitD ?_ ?_ | refine condM_splitN ?_ ?_ | refine condM_split ?_ ?_ | refine condM_any ?_ ?_ | refine cw (c2) ?_ | intro _) | (simp [*, hlt, hg]) | (refine cw_eq (c2) ?_ ?_; (· (simp [*]; done))))
          all_goals try first | exact inI64 (by omega) (by omega) | omega
      · have hke : k = 5 := by omega
        subst hke
        clear k6 k26 k0
        repeat' (first | (with_reducible first | refine awp_seq ?_ | refine awp_blockS ?_ | refine awp_blockC ?_ | refine awp_blockR ?_ | refine awp_skip ?_ | refine awp_ret ?_ | refine awp_exit ?_ | refine awp_region ?_ | refine awp_condM ?_ | refine And.intro ?_ ?_ | apply gQ_merge | apply gE_merge | exact EqV_w | exact EqE_w | exact EqV_ptr | exact EqE_ptr | exact EqV_msl | exact EqE_msl | exact EqV_agg | exact EqE_agg | exact EqV_fn | exact EqE_fn | exact EqV_gd | exact EqE_gd | refine gM_splitN ?_ ?_ | refine gM_split ?_ ?_ |  refine condM_splitDN ?_ ?_ | refine condM_splitD ?_ ?_ | refine condM_splitN ?_ ?_ | refine condM_split ?_ ?_ | refine condM_any ?_ ?_ | intro _) | (simp [*]))
        all_goals (refine finW_intro () ?_ ?_; (· exact kj); (refine le_of ?_ ?_ <;> first | trivial | (simp [*]; done)))
    have kf := keep hf
    clear hf k6
    repeat' (first | (with_reducible first | refine awp_seq ?_ | refine awp_blockS ?_ | refine awp_blockC ?_ | refine awp_blockR ?_ | refine awp_skip ?_ | refine awp_ret ?_ | refine awp_exit ?_ | refine awp_region ?_ | refine awp_condM ?_ | refine And.intro ?_ ?_ | apply gQ_merge | apply gE_merge | exact EqV_w | exact EqE_w | exact EqV_ptr | exact EqE_ptr | exact EqV_msl | exact EqE_msl | exact EqV_agg | exact EqE_agg | exact EqV_fn | exact EqE_fn | exact EqV_gd | exact EqE_gd | refine gM_splitN ?_ ?_ | refine gM_split ?_ ?_ |  refine condM_splitDN ?_ ?_ | refine condM_splitD ?_ ?_ | refine condM_splitN ?_ ?_ | refine condM_split ?_ ?_ | refine condM_any ?_ ?_ | intro _) | (simp [*]))
    refine awp_for4 2 (fun (k : Nat) => k ≤ 5 ∧ (∀ j, j < k → Lib.containsS ((five r).take j) (nth (five r) j) = false)) [36] (fun (k : Nat) => [(37, .w false false (.int .i64 k)), (3, .w false false (.ip [.str r.owner, .str r.driver, .str r.office, .int .i64 r.s0, .int .i64 r.s1, .int .i64 r.s2, .str r.cash, .str r.vouch] 0)), (6, .w false false (.ip (strP (five r)) 0))]) [] (fun (k : Nat) => []) (fun (k : Nat) => 5 - k) (fun (_u : Unit) => apart r) [] (fun (_u : Unit) => [(3, .w false false (.ip [.str r.owner, .str r.driver, .str r.office, .int .i64 r.s0, .int .i64 r.s1, .int .i64 r.s2, .str r.cash, .str r.vouch] 0))]) [] (fun (_u : Unit) => []) (0) ⟨Nat.zero_le _, fun j hj => absurd hj (Nat.not_lt_zero _)⟩ (le_gen [0, 1] (by simp [five_strP]) (by simp [five_strP])) (fun k hk => ?_) (fun _u hf => ?_)
    · obtain ⟨hk, hj⟩ := hk
      have kj := keep hj
      clear hj
      by_cases hlt : k < 5
      · have c2 := contT_c ((five r).take k) (nth (five r) k) (by rw [List.length_take]; omega)
        rw [take_len _ _ (show k ≤ (five r).length from hk)] at c2
        have hg := five_get r k hlt
        cases hb : Lib.containsS ((five r).take k) (nth (five r) k) with
        | false =>
          rw [hb] at c2
          have kj2 : Keep (∀ j, j < k + 1 → Lib.containsS ((five r).take j) (nth (five r) j) = false) := keep (fun j hj => by
            rcases Nat.lt_or_eq_of_le (Nat.le_of_lt_succ hj) with h | h
            · exact (show ∀ j, j < k → Lib.containsS ((five r).take j) (nth (five r) j) = false from kj) j h
            · rw [h]; exact hb)
          clear hb k26 k0 kf kj
          repeat' (first | (with_reducible first | refine awp_idx (j := k) (cs := [.w false false (.str r.owner), .w false false (.str r.driver), .w false false (.str r.office), .w false false (.str r.cash), .w false false (.str r.vouch)]) (k := 5) (e := 9) (d1 := 39) (d2 := 40) (x := 36) (i := 37) (t := 37) (ow := false) (fl := false) rfl Tryz.underlying133 (by simp) (by simp) (by simp) (by simp) (by decide) (by decide) hlt (by simpa using hlt) (by decide) (by decide) ?_ | refine awp_seq ?_ | refine awp_blockS ?_ | refine awp_blockC ?_ | refine awp_blockR ?_ | refine awp_skip ?_ | refine awp_ret ?_ | refine awp_exit ?_ | refine awp_region ?_ | refine awp_condM ?_ | refine And.intro ?_ ?_ | apply gQ_merge | apply gE_merge | exact EqV_w | exact EqE_w | exact EqV_ptr | exact EqE_ptr | exact EqV_msl | exact EqE_msl | exact EqV_agg | exact EqE_agg | exact EqV_fn | exact EqE_fn | exact EqV_gd | exact EqE_gd | refine gM_splitN ?_ ?_ | refine gM_split ?_ ?_ |  refine condM_splitDN ?_ ?_ | refine condM_splitD ?_ ?_ | refine condM_splitN ?_ ?_ | refine condM_split ?_ ?_ | refine condM_any ?_ ?_ | refine cw (c2) ?_ | intro _) | (simp [*, hlt, hg]) | (refine cw_eq (c2) ?_ ?_; (· (simp [*]; done))))
          all_goals try first | exact inI64 (by omega) (by omega) | omega | (show 5 ≤ 5; omega)
          all_goals (refine loopK_normal _ _ _ _ _ (k + 1) _ ?_ (by first | omega | (dsimp only; omega) | (simp; omega)) ?_; (· exact ⟨by omega, kj2⟩); (refine le_of ?_ ?_ <;> first | trivial | (simp [*]; done)))
        | true =>
          rw [hb] at c2
          have hR := (show hasAll l r → ∀ k, k < 5 → Lib.containsS ((five r).take k) (nth (five r) k) = true → R = 26 from k26) kf k hlt hb
          subst hR
          clear hb k26 k0 kf kj
          repeat' (first | (with_reducible first | refine awp_idx (j := k) (cs := [.w false false (.str r.owner), .w false false (.str r.driver), .w false false (.str r.office), .w false false (.str r.cash), .w false false (.str r.vouch)]) (k := 5) (e := 9) (d1 := 39) (d2 := 40) (x := 36) (i := 37) (t := 37) (ow := false) (fl := false) rfl Tryz.underlying133 (by simp) (by simp) (by simp) (by simp) (by decide) (by decide) hlt (by simpa using hlt) (by decide) (by decide) ?_ | refine awp_seq ?_ | refine awp_blockS ?_ | refine awp_blockC ?_ | refine awp_blockR ?_ | refine awp_skip ?_ | refine awp_ret ?_ | refine awp_exit ?_ | refine awp_region ?_ | refine awp_condM ?_ | refine And.intro ?_ ?_ | apply gQ_merge | apply gE_merge | exact EqV_w | exact EqE_w | exact EqV_ptr | exact EqE_ptr | exact EqV_msl | exact EqE_msl | exact EqV_agg | exact EqE_agg | exact EqV_fn | exact EqE_fn | exact EqV_gd | exact EqE_gd | refine gM_splitN ?_ ?_ | refine gM_split ?_ ?_ |  refine condM_splitDN ?_ ?_ | refine condM_splitD ?_ ?_ | refine condM_splitN ?_ ?_ | refine condM_split ?_ ?_ | refine condM_any ?_ ?_ | refine cw (c2) ?_ | intro _) | (simp [*, hlt, hg]) | (refine cw_eq (c2) ?_ ?_; (· (simp [*]; done))))
          all_goals try first | exact inI64 (by omega) (by omega) | omega | (show 5 ≤ 5; omega)
      · have hke : k = 5 := by omega
        subst hke
        clear k26 k0 kf
        repeat' (first | (with_reducible first | refine awp_seq ?_ | refine awp_blockS ?_ | refine awp_blockC ?_ | refine awp_blockR ?_ | refine awp_skip ?_ | refine awp_ret ?_ | refine awp_exit ?_ | refine awp_region ?_ | refine awp_condM ?_ | refine And.intro ?_ ?_ | apply gQ_merge | apply gE_merge | exact EqV_w | exact EqE_w | exact EqV_ptr | exact EqE_ptr | exact EqV_msl | exact EqE_msl | exact EqV_agg | exact EqE_agg | exact EqV_fn | exact EqE_fn | exact EqV_gd | exact EqE_gd | refine gM_splitN ?_ ?_ | refine gM_split ?_ ?_ |  refine condM_splitDN ?_ ?_ | refine condM_splitD ?_ ?_ | refine condM_splitN ?_ ?_ | refine condM_split ?_ ?_ | refine condM_any ?_ ?_ | intro _) | (simp [*]))
        all_goals (refine finW_intro () ?_ ?_; (· exact kj); (refine le_of ?_ ?_ <;> first | trivial | (simp [*]; done)))
    · have hR := (show hasAll l r → apart r → R = E from k0) kf hf
      subst hR
      clear hf kf k26 k0
      repeat' (first | (with_reducible first | refine awp_seq ?_ | refine awp_blockS ?_ | refine awp_blockC ?_ | refine awp_blockR ?_ | refine awp_skip ?_ | refine awp_ret ?_ | refine awp_exit ?_ | refine awp_region ?_ | refine awp_condM ?_ | refine And.intro ?_ ?_ | apply gQ_merge | apply gE_merge | exact EqV_w | exact EqE_w | exact EqV_ptr | exact EqE_ptr | exact EqV_msl | exact EqE_msl | exact EqV_agg | exact EqE_agg | exact EqV_fn | exact EqE_fn | exact EqV_gd | exact EqE_gd | refine gM_splitN ?_ ?_ | refine gM_split ?_ ?_ |  refine condM_splitDN ?_ ?_ | refine condM_splitD ?_ ?_ | refine condM_splitN ?_ ?_ | refine condM_split ?_ ?_ | refine condM_any ?_ ?_ | refine cw (c3) ?_ | intro _) | (simp [*]) | (refine cw_eq (c3) ?_ ?_; (· (simp [*]; done))))
  · rw [ruleS_bad r h0]
    generalize (accsS l).2 = E at *
    unfold cRule
    refine realcall_intro Tryz.func28 (by kernel_rfl) rfl (Nat.le_of_ble_eq_true (by kernel_rfl)) ?_
    simp only [Tryz.results28, Tryz.ntmps28]
    repeat' (first | (with_reducible first | refine awp_seq ?_ | refine awp_blockS ?_ | refine awp_blockC ?_ | refine awp_blockR ?_ | refine awp_skip ?_ | refine awp_ret ?_ | refine awp_exit ?_ | refine awp_region ?_ | refine awp_condM ?_ | refine And.intro ?_ ?_ | apply gQ_merge | apply gE_merge | exact EqV_w | exact EqE_w | exact EqV_ptr | exact EqE_ptr | exact EqV_msl | exact EqE_msl | exact EqV_agg | exact EqE_agg | exact EqV_fn | exact EqE_fn | exact EqV_gd | exact EqE_gd | refine gM_splitN ?_ ?_ | refine gM_split ?_ ?_ |  refine condM_splitDN ?_ ?_ | refine condM_splitD ?_ ?_ | refine condM_splitN ?_ ?_ | refine condM_split ?_ ?_ | refine condM_any ?_ ?_ | refine cw (c1) ?_ | intro _) | (simp [*, h0]) | (refine cw_eq (c1) ?_ ?_; (· (simp [*]; done))))
end Go.Proofs.YtlcimflkjfbaoaaGreat
namespace Go.Proofs.YtlcimflkjfbaoaaGreat
open Go Go.Fi
set_option maxRecDepth 20000

/-! ### the parts come to the amount -/
def sumI : List Int → Int
  | [] => 0
  | x :: r => x + sumI r
@[simp] theorem sumI_nil : sumI [] = 0 := rfl
theorem sumI_set (v : Int) : ∀ (l : List Int) (k : Nat), k < l.length → sumI (l.set k v) = sumI l - nth l k + v
  | x :: r, 0, _ => by rw [List.set_cons_zero]; simp only [sumI]; rw [show nth (x :: r) 0 = x from rfl]; omega
  | x :: r, k + 1, h => by
    rw [List.set_cons_succ]
    simp only [sumI]
    rw [sumI_set v r k (by simpa using h), show nth (x :: r) (k + 1) = nth r k from rfl]
    omega
theorem sumI_bump : ∀ (r : List Nat) (out : List Int), (∀ i ∈ r, i < out.length) → sumI (bump out r) = sumI out + (r.length : Int)
  | [], out, _ => by simp
  | i :: r, out, h => by
    simp only [bump, List.length_cons]
    rw [sumI_bump r _ (fun x hx => by rw [List.length_set]; exact h x (by simp [hx])), sumI_set _ _ _ (h i (by simp))]
    omega
theorem nth_bump (j : Nat) : ∀ (r : List Nat) (out : List Int), (∀ i ∈ r, i < out.length) → r.Nodup → nth (bump out r) j = nth out j + (if j ∈ r then 1 else 0)
  | [], out, _, _ => by simp
  | i :: r, out, h, hn => by
    rw [List.nodup_cons] at hn
    simp only [bump]
    rw [nth_bump j r _ (fun x hx => by rw [List.length_set]; exact h x (by simp [hx])) hn.2, nth_set _ _ _ _ (h i (by simp))]
    by_cases h1 : i = j
    · subst h1; simp [hn.1]
    · have h2 : ¬ j = i := fun e => h1 e.symm
      simp [h1, h2]
theorem sumI_qs (a S : Nat) : ∀ ns : List Nat, sumI (qsK a S ns) = ((givenK a S ns : Nat) : Int)
  | [] => rfl
  | s :: r => by
    have ih := sumI_qs a S r
    unfold qsK at ih ⊢
    simp only [List.map_cons, sumI, givenK, ih]
    omega
theorem orderN_nodup (rs : List Int) (N : Nat) : (orderN rs N).Nodup := by
  have hl := orderN_len rs N
  rw [List.nodup_iff_pairwise_ne, List.pairwise_iff_getElem]
  intro i j hi hj hij h
  refine order_inj rs N i j hij (by omega) ?_
  simpa [nth, List.getD_eq_getElem?_getD, List.getElem?_eq_getElem hi, List.getElem?_eq_getElem hj] using h
theorem order_in (rs : List Int) (N L : Nat) (hL : L ≤ N + 1) : ∀ i ∈ (orderN rs N).take L, i < N + 1 := by
  intro i hi
  obtain ⟨k, hk, rfl⟩ := (mem_take_order rs N L i hL).1 hi
  exact orderN_lt rs N k (by omega)
theorem ns_pos {ns : List Nat} (h : 0 < sumN ns) : 0 < ns.length := by
  cases ns with
  | nil => simp at h
  | cons x r => simp
@[simp] theorem splitS_len (a : Nat) (ns : List Nat) : (splitS a ns).length = ns.length := by
  unfold splitS; rw [bump_len, qs_len]
theorem splitS_sum (a : Nat) (ns : List Nat) (h : 0 < sumN ns) : sumI (splitS a ns) = (a : Int) := by
  obtain ⟨h1, h2⟩ := left_bd a ns h
  have hp := ns_pos h
  have hol := orderN_len (rsK a (sumN ns) ns) (ns.length - 1)
  unfold splitS
  rw [sumI_bump _ _ (fun i hi => by
    have := order_in _ _ _ (by omega) i hi
    rw [qs_len]; omega), sumI_qs, take_len _ _ (by omega)]
  omega
theorem nth_qs (a S : Nat) (ns : List Nat) (k : Nat) (h : k < ns.length) : nth (qsK a S ns) k = ((a * nth ns k / S : Nat) : Int) := by
  simp [qsK, nth, List.getD_eq_getElem?_getD, List.getElem?_map, List.getElem?_eq_getElem h]
theorem splitS_at (a : Nat) (ns : List Nat) (h : 0 < sumN ns) (k : Nat) (hk : k < ns.length) : nth (splitS a ns) k = ((a * nth ns k / sumN ns : Nat) : Int) + (if k ∈ (orderN (rsK a (sumN ns) ns) (ns.length - 1)).take (a - givenK a (sumN ns) ns) then 1 else 0) := by
  obtain ⟨h1, h2⟩ := left_bd a ns h
  unfold splitS
  rw [nth_bump _ _ _ (fun i hi => by
    have := order_in _ _ _ (by omega) i hi
    rw [qs_len]; omega) (List.Nodup.sublist (List.take_sublist _ _) (orderN_nodup _ _)), nth_qs _ _ _ _ hk]
theorem splitS_pos (a : Nat) (ns : List Nat) (h : 0 < sumN ns) (k : Nat) (hk : k < ns.length) : 0 ≤ nth (splitS a ns) k := by
  rw [splitS_at a ns h k hk]
  generalize a * nth ns k / sumN ns = q
  split <;> omega
theorem sumI_nonneg : ∀ (l : List Int), (∀ k, k < l.length → 0 ≤ nth l k) → 0 ≤ sumI l
  | [], _ => Int.le_refl _
  | x :: r, h => by
    have h0 := h 0 (by simp)
    rw [show nth (x :: r) 0 = x from rfl] at h0
    have ih := sumI_nonneg r (fun k hk => by have := h (k + 1) (by simpa using hk); exact this)
    simp only [sumI]; omega
theorem nth_le_sumI : ∀ (l : List Int), (∀ k, k < l.length → 0 ≤ nth l k) → ∀ k, k < l.length → nth l k ≤ sumI l
  | x :: r, h, 0, _ => by
    have ih := sumI_nonneg r (fun k hk => by have := h (k + 1) (by simpa using hk); exact this)
    show x ≤ x + sumI r
    omega
  | x :: r, h, k + 1, hk => by
    have h0 := h 0 (by simp)
    rw [show nth (x :: r) 0 = x from rfl] at h0
    have ih := nth_le_sumI r (fun k hk => by have := h (k + 1) (by simpa using hk); exact this) k (by simpa using hk)
    show nth r k ≤ x + sumI r
    omega
theorem splitS_le (a : Nat) (ns : List Nat) (h : 0 < sumN ns) (k : Nat) (hk : k < ns.length) : nth (splitS a ns) k ≤ (a : Int) := by
  have := nth_le_sumI (splitS a ns) (fun k hk => splitS_pos a ns h k (by rwa [splitS_len] at hk)) k (by rw [splitS_len]; exact hk)
  rwa [splitS_sum a ns h] at this
end Go.Proofs.YtlcimflkjfbaoaaGreat

