/- Contracts of functions for this claim: lemmas alone. -/
import Derived.Test.YtpjhpmpbdfeajaaGreatDoorP17
import Derived.Sort.LotA
set_option linter.unusedSimpArgs false
set_option linter.unusedVariables false
namespace Go.Proofs.YtpjhpmpbdfeajaaGreatDoor
open Go Go.Fi
set_option maxRecDepth 20000

/-! ### the order by rests: ties by their numbers -/
def lessR {N : Nat} (rs : List Int) (a b : Fin (N + 1)) : Bool := decide (rs.getD b.val 0 < rs.getD a.val 0)
def lessT {N : Nat} (rs : List Int) (a b : Fin (N + 1)) : Bool := decide (rs.getD b.val 0 < rs.getD a.val 0 ∨ (rs.getD b.val 0 = rs.getD a.val 0 ∧ a.val < b.val))
theorem swoT {N : Nat} (rs : List Int) : Sort.SWO (lessT (N := N) rs) where
  irrefl x := by simp [lessT]
  trans x y z := by simp only [lessT, decide_eq_true_eq]; omega
  ntrans x y z := by simp only [lessT, decide_eq_false_iff_not]; omega
theorem inner_eq {N : Nat} (rs : List Int) (i : Nat) : ∀ (j : Nat) (d : Array (Fin (N + 1))), j ≤ i → i < d.size → (d[j]!).val = i → (∀ k, k < j → (d[k]!).val < i) → Sort.insInner (lessR rs) 0 j d = Sort.insInner (lessT rs) 0 j d
  | 0, d, _, _, _, _ => by unfold Sort.insInner; rfl
  | j + 1, d, hj, hs, hd, hk => by
    have h1 := hk j (by omega)
    have e : lessR rs d[j + 1]! d[j]! = lessT rs d[j + 1]! d[j]! := by
      unfold lessR lessT
      exact decide_eq_decide.2 (by omega)
    have g := Sort.swp_get d (i := j + 1) (j := j) (by omega) (by omega)
    unfold Sort.insInner
    rw [e]
    split
    · refine inner_eq rs i j _ (by omega) (by rw [Sort.swp_size]; exact hs) ?_ (fun k hk2 => ?_)
      · rw [g, if_pos rfl]; exact hd
      · rw [g, if_neg (by omega), if_neg (by omega)]; exact hk k (by omega)
    · rfl
theorem inner_keep {N : Nat} (lt : Fin (N + 1) → Fin (N + 1) → Bool) (i : Nat) : ∀ (j : Nat) (d : Array (Fin (N + 1))), j ≤ i → i < d.size → (∀ k, k ≤ i → (d[k]!).val ≤ i) → (∀ k, k ≤ i → ((Sort.insInner lt 0 j d)[k]!).val ≤ i) ∧ (∀ k, i < k → (Sort.insInner lt 0 j d)[k]! = d[k]!)
  | 0, d, _, _, h => by unfold Sort.insInner; exact ⟨h, fun _ _ => rfl⟩
  | j + 1, d, hj, hs, h => by
    have g := Sort.swp_get d (i := j + 1) (j := j) (by omega) (by omega)
    unfold Sort.insInner
    split
    · obtain ⟨h1, h2⟩ := inner_keep lt i j (Sort.swp d (j + 1) j) (by omega) (by rw [Sort.swp_size]; exact hs) (fun k hk => by
        rw [g]
        split
        · exact h _ (by omega)
        · split
          · exact h _ (by omega)
          · exact h k hk)
      exact ⟨h1, fun k hk => by rw [h2 k hk, g, if_neg (by omega), if_neg (by omega)]⟩
    · exact ⟨h, fun _ _ => rfl⟩
theorem outer_eq {N : Nat} (rs : List Int) (b : Nat) : ∀ (n i : Nat) (d : Array (Fin (N + 1))), b - i = n → d.size = b → (∀ k, k < i → (d[k]!).val < i) → (∀ k, i ≤ k → k < b → (d[k]!).val = k) → Sort.insOuter (lessR rs) 0 b i d = Sort.insOuter (lessT rs) 0 b i d
  | 0, i, d, hn, _, _, _ => by
    rw [Sort.insOuter, if_neg (by omega), Sort.insOuter, if_neg (by omega)]
  | n + 1, i, d, hn, hs, h1, h2 => by
    have hi : i < b := by omega
    have hii := h2 i (Nat.le_refl _) hi
    have e := inner_eq rs i i d (Nat.le_refl _) (by omega) hii h1
    obtain ⟨k1, k2⟩ := inner_keep (lessT rs) i i d (Nat.le_refl _) (by omega) (fun k hk => by
      rcases Nat.lt_or_eq_of_le hk with h | h
      · exact Nat.le_of_lt (h1 k h)
      · rw [h, hii]; exact Nat.le_refl _)
    have o1 : ∀ lt : Fin (N + 1) → Fin (N + 1) → Bool, Sort.insOuter lt 0 b i d = Sort.insOuter lt 0 b (i + 1) (Sort.insInner lt 0 i d) := fun lt => by rw [Sort.insOuter, if_pos hi]
    rw [o1, o1, e]
    exact outer_eq rs b n (i + 1) _ (by omega) (by rw [Go.Fi.insInner_size]; exact hs) (fun k hk => Nat.lt_succ_of_le (k1 k (by omega))) (fun k hk hb => by rw [k2 k (by omega)]; exact h2 k (by omega) hb)
theorem fin_get (N k : Nat) (h : k < N + 1) : (((List.finRange (N + 1)).toArray)[k]!).val = k := by
  rw [getElem!_pos _ k (by simpa using h)]
  simp
theorem sorted_eq (rs : List Int) (N : Nat) : sorted rs N = (Sort.insertionSort (lessT (N := N) rs) (List.finRange (N + 1)).toArray 0 (N + 1)).toList := by
  unfold sorted Sort.insertionSort
  have := outer_eq (N := N) rs (N + 1) N 1 (List.finRange (N + 1)).toArray (by omega) (by simp) (fun k hk => by rw [fin_get N k (by omega)]; omega) (fun k _ hk => fin_get N k hk)
  exact congrArg Array.toList this
theorem sorted_facts (rs : List Int) (N : Nat) : (sorted rs N).Perm (List.finRange (N + 1)) ∧ ∀ i j, i < j → j < N + 1 → lessT rs ((Sort.insertionSort (lessT (N := N) rs) (List.finRange (N + 1)).toArray 0 (N + 1))[j]!) ((Sort.insertionSort (lessT (N := N) rs) (List.finRange (N + 1)).toArray 0 (N + 1))[i]!) = false := by
  obtain ⟨⟨h1, _, h3⟩, h4⟩ := Sort.insertionSort_holds (lt := lessT (N := N) rs) (swoT rs) (List.finRange (N + 1)).toArray 0 (N + 1) (Nat.zero_le _) (by simp)
  refine ⟨?_, fun i j hij hj => h4 i j (Nat.zero_le _) hij hj⟩
  rw [sorted_eq]
  generalize Sort.insertionSort (lessT (N := N) rs) (List.finRange (N + 1)).toArray 0 (N + 1) = d at *
  have e1 : (d.extract 0 (N + 1)) = d := by
    have : d.size ≤ N + 1 := by rw [h1]; simp
    exact Array.extract_eq_self_of_le this
  have e2 : ((List.finRange (N + 1)).toArray.extract 0 (N + 1)) = (List.finRange (N + 1)).toArray := by
    have : (List.finRange (N + 1)).toArray.size ≤ N + 1 := by simp
    exact Array.extract_eq_self_of_le this
  rw [e1, e2] at h3
  simpa using h3
theorem nodup_fin (n : Nat) : (List.finRange n).Nodup := by
  rw [List.nodup_iff_pairwise_ne, List.pairwise_iff_getElem]
  intro i j hi hj hij h
  simp at h
  omega
theorem order_at (rs : List Int) (N k : Nat) (h : k < N + 1) : nth (orderN rs N) k = ((Sort.insertionSort (lessT (N := N) rs) (List.finRange (N + 1)).toArray 0 (N + 1))[k]!).val := by
  have hl := sorted_len rs N
  unfold orderN
  rw [sorted_eq] at hl ⊢
  generalize Sort.insertionSort (lessT (N := N) rs) (List.finRange (N + 1)).toArray 0 (N + 1) = d at *
  rw [Array.length_toList] at hl
  rw [getElem!_pos d k (by omega)]
  simp [nth, List.getD_eq_getElem?_getD, List.getElem?_eq_getElem, show k < d.size by omega]
theorem order_inj (rs : List Int) (N j k : Nat) (hjk : j < k) (hk : k < N + 1) : nth (orderN rs N) j ≠ nth (orderN rs N) k := by
  have hn : (sorted rs N).Nodup := (sorted_facts rs N).1.nodup_iff.2 (nodup_fin _)
  have hl := sorted_len rs N
  rw [List.nodup_iff_pairwise_ne, List.pairwise_iff_getElem] at hn
  have := hn j k (by omega) (by omega) hjk
  intro e
  apply this
  apply Fin.ext
  simpa [orderN, nth, List.getD_eq_getElem?_getD, List.getElem?_map, List.getElem?_eq_getElem, show j < (sorted rs N).length by omega, show k < (sorted rs N).length by omega] using e
theorem order_all (rs : List Int) (N i : Nat) (h : i < N + 1) : ∃ k, k < N + 1 ∧ nth (orderN rs N) k = i := by
  have hm : (⟨i, h⟩ : Fin (N + 1)) ∈ sorted rs N := (sorted_facts rs N).1.mem_iff.2 (List.mem_finRange _)
  obtain ⟨k, hk, e⟩ := List.getElem_of_mem hm
  have hl := sorted_len rs N
  refine ⟨k, by omega, ?_⟩
  simp [orderN, nth, List.getD_eq_getElem?_getD, List.getElem?_map, List.getElem?_eq_getElem, hk, e]
theorem order_le (rs : List Int) (N j k : Nat) (hjk : j < k) (hk : k < N + 1) : nth rs (nth (orderN rs N) k) < nth rs (nth (orderN rs N) j) ∨ (nth rs (nth (orderN rs N) k) = nth rs (nth (orderN rs N) j) ∧ nth (orderN rs N) j < nth (orderN rs N) k) := by
  have h := (sorted_facts rs N).2 j k hjk hk
  have hne := order_inj rs N j k hjk hk
  rw [order_at rs N j (by omega), order_at rs N k hk] at *
  generalize (Sort.insertionSort (lessT (N := N) rs) (List.finRange (N + 1)).toArray 0 (N + 1))[k]! = y at *
  generalize (Sort.insertionSort (lessT (N := N) rs) (List.finRange (N + 1)).toArray 0 (N + 1))[j]! = x at *
  unfold lessT at h
  have h2 := of_decide_eq_false h
  show rs.getD y.val 0 < rs.getD x.val 0 ∨ (rs.getD y.val 0 = rs.getD x.val 0 ∧ x.val < y.val)
  omega

/-! ### one after the other: the greatest rest first -/
def bestK (l : List Int) : Nat → Nat
  | 0 => 0
  | k + 1 => if nth l (bestK l k) < nth l k then k else bestK l k
@[simp] theorem bestK_one (l : List Int) : bestK l 1 = 0 := by
  unfold bestK bestK; split <;> rfl
theorem bestK_spec (l : List Int) : ∀ k, bestK l (k + 1) < k + 1 ∧ (∀ i, i < k + 1 → nth l i ≤ nth l (bestK l (k + 1))) ∧ (∀ i, i < bestK l (k + 1) → nth l i < nth l (bestK l (k + 1)))
  | 0 => by
    rw [bestK_one]
    refine ⟨by omega, fun i hi => ?_, fun i hi => by omega⟩
    have : i = 0 := by omega
    subst this; exact Int.le_refl _
  | k + 1 => by
    obtain ⟨h1, h2, h3⟩ := bestK_spec l k
    have e : bestK l (k + 1 + 1) = if nth l (bestK l (k + 1)) < nth l (k + 1) then k + 1 else bestK l (k + 1) := rfl
    generalize bestK l (k + 1) = b at *
    rw [e]
    split
    · rename_i hlt
      refine ⟨by omega, fun i hi => ?_, fun i hi => ?_⟩
      · by_cases hk : i = k + 1
        · subst hk; exact Int.le_refl _
        · have := h2 i (by omega); omega
      · have := h2 i hi; omega
    · rename_i hlt
      refine ⟨by omega, fun i hi => ?_, h3⟩
      by_cases hk : i = k + 1
      · subst hk; omega
      · exact h2 i (by omega)
theorem best_uniq (l : List Int) (k m : Nat) (h1 : m < k + 1) (h2 : ∀ i, i < k + 1 → nth l i ≤ nth l m) (h3 : ∀ i, i < m → nth l i < nth l m) : bestK l (k + 1) = m := by
  obtain ⟨b1, b2, b3⟩ := bestK_spec l k
  generalize bestK l (k + 1) = b at *
  rcases Nat.lt_trichotomy b m with h | h | h
  · have := h3 b h; have := b2 m h1; omega
  · exact h
  · have := b3 m h; have := h2 b b1; omega
def mark (l : List Int) : List Nat → List Int
  | [] => l
  | i :: r => mark (l.set i (-1)) r
@[simp] theorem mark_nil (l : List Int) : mark l [] = l := rfl
theorem mark_snoc (i : Nat) : ∀ (r : List Nat) (l : List Int), mark l (r ++ [i]) = (mark l r).set i (-1)
  | [], l => rfl
  | x :: r, l => by simp only [List.cons_append, mark]; exact mark_snoc i r _
@[simp] theorem mark_len : ∀ (r : List Nat) (l : List Int), (mark l r).length = l.length
  | [], l => rfl
  | x :: r, l => by simp only [mark]; rw [mark_len r]; simp
theorem nth_mark (j : Nat) : ∀ (r : List Nat) (l : List Int), (∀ i ∈ r, i < l.length) → nth (mark l r) j = if j ∈ r then -1 else nth l j
  | [], l, _ => by simp
  | x :: r, l, h => by
    simp only [mark]
    rw [nth_mark j r _ (fun i hi => by rw [List.length_set]; exact h i (by simp [hi])), nth_set _ _ _ _ (h x (by simp))]
    by_cases h1 : j ∈ r
    · simp [h1]
    · by_cases h2 : x = j
      · subst h2; simp [h1]
      · simp [h1, h2, Ne.symm h2]
theorem mem_take_order (rs : List Int) (N j i : Nat) (hj : j ≤ N + 1) : i ∈ (orderN rs N).take j ↔ ∃ k, k < j ∧ nth (orderN rs N) k = i := by
  have hl := orderN_len rs N
  constructor
  · intro h
    obtain ⟨k, hk, rfl⟩ := mem_nth h
    rw [take_len _ _ (by omega)] at hk
    exact ⟨k, hk, (nth_take _ _ _ hk).symm⟩
  · rintro ⟨k, hk, rfl⟩
    have hlt : k < ((orderN rs N).take j).length := by rw [take_len _ _ (by omega)]; exact hk
    rw [← nth_take _ _ _ hk]
    simp only [nth, List.getD_eq_getElem?_getD, List.getElem?_eq_getElem hlt, Option.getD_some]
    exact List.getElem_mem hlt
theorem best_order (rs : List Int) (N : Nat) (hl : rs.length = N + 1) (h0 : ∀ i, i < N + 1 → 0 ≤ nth rs i) (j : Nat) (hj : j < N + 1) : bestK (mark rs ((orderN rs N).take j)) (N + 1) = nth (orderN rs N) j := by
  have hlt := orderN_lt rs N
  have hmark : ∀ i, nth (mark rs ((orderN rs N).take j)) i = if i ∈ (orderN rs N).take j then -1 else nth rs i := fun i => nth_mark i _ _ (fun x hx => by
    obtain ⟨k, hk, rfl⟩ := (mem_take_order rs N j x (by omega)).1 hx
    rw [hl]; exact hlt k (by omega))
  have hm : ¬ nth (orderN rs N) j ∈ (orderN rs N).take j := fun h => by
    obtain ⟨k, hk, e⟩ := (mem_take_order rs N j _ (by omega)).1 h
    exact order_inj rs N k j hk hj e
  have hmv : nth (mark rs ((orderN rs N).take j)) (nth (orderN rs N) j) = nth rs (nth (orderN rs N) j) := by rw [hmark, if_neg hm]
  have hm0 := h0 _ (hlt j hj)
  have key : ∀ i, i < N + 1 → nth (mark rs ((orderN rs N).take j)) i < nth rs (nth (orderN rs N) j) ∨ (nth (mark rs ((orderN rs N).take j)) i = nth rs (nth (orderN rs N) j) ∧ nth (orderN rs N) j ≤ i) := by
    intro i hi
    rw [hmark]
    split
    · left; omega
    · rename_i hni
      obtain ⟨k, hk, rfl⟩ := order_all rs N i hi
      rcases Nat.lt_trichotomy k j with h | h | h
      · exact absurd ((mem_take_order rs N j _ (by omega)).2 ⟨k, h, rfl⟩) hni
      · subst h; exact .inr ⟨rfl, Nat.le_refl _⟩
      · rcases order_le rs N j k h hk with h1 | ⟨h1, h2⟩
        · exact .inl h1
        · exact .inr ⟨h1, Nat.le_of_lt h2⟩
  refine best_uniq _ N _ (hlt j hj) (fun i hi => ?_) (fun i hi => ?_)
  · rw [hmv]; rcases key i hi with h | ⟨h, _⟩ <;> omega
  · rw [hmv]; rcases key i (by have := hlt j hj; omega) with h | ⟨_, h⟩
    · exact h
    · omega
/-- in whole totals and a rest -/
theorem whole_div (a s S : Nat) (hS : 0 < S) : a / S * s + a % S * s / S = a * s / S := by
  have e : a * s = S * (a / S * s) + a % S * s := by
    have := Nat.div_add_mod a S
    calc a * s = (S * (a / S) + a % S) * s := by rw [this]
      _ = S * (a / S * s) + a % S * s := by rw [Nat.add_mul, Nat.mul_assoc]
  rw [e, Nat.mul_add_div hS]
theorem whole_mod (a s S : Nat) : a % S * s % S = a * s % S := by
  rw [Nat.mod_mul_mod]
end Go.Proofs.YtpjhpmpbdfeajaaGreatDoor
namespace Go.Proofs.YtpjhpmpbdfeajaaGreatDoor
open Go Go.Fi
set_option maxRecDepth 20000

/-! ### the parts come to the amount -/
def sumI : List Int → Int
  | [] => 0
  | x :: r => x + sumI r
@[simp] theorem sumI_nil : sumI [] = 0 := rfl
theorem sumI_snoc (x : Int) : ∀ l : List Int, sumI (l ++ [x]) = sumI l + x
  | [] => by simp [sumI]
  | y :: l => by simp only [List.cons_append, sumI, sumI_snoc x l]; omega
theorem sumI_succ (l : List Int) (k : Nat) (h : k < l.length) : sumI (l.take (k + 1)) = sumI (l.take k) + nth l k := by
  rw [take_succ_nth l k h, sumI_snoc]
theorem sumI_set (v : Int) : ∀ (l : List Int) (k : Nat), k < l.length → sumI (l.set k v) = sumI l - nth l k + v
  | x :: r, 0, _ => by rw [List.set_cons_zero]; simp only [sumI]; rw [show nth (x :: r) 0 = x from rfl]; omega
  | x :: r, k + 1, h => by
    rw [List.set_cons_succ]
    simp only [sumI]
    rw [sumI_set v r k (by simpa using h), show nth (x :: r) (k + 1) = nth r k from rfl]
    omega
theorem sumI_bump : ∀ (r : List Nat) (out : List Int), (∀ i ∈ r, i < out.length) → sumI (bump out r) = sumI out + (r.length : Int)
  | [], out, _ => by simp
  | i :: r, out, h => by
    simp only [bump, List.length_cons]
    rw [sumI_bump r _ (fun x hx => by rw [List.length_set]; exact h x (by simp [hx])), sumI_set _ _ _ (h i (by simp))]
    omega
theorem nth_bump (j : Nat) : ∀ (r : List Nat) (out : List Int), (∀ i ∈ r, i < out.length) → r.Nodup → nth (bump out r) j = nth out j + (if j ∈ r then 1 else 0)
  | [], out, _, _ => by simp
  | i :: r, out, h, hn => by
    rw [List.nodup_cons] at hn
    simp only [bump]
    rw [nth_bump j r _ (fun x hx => by rw [List.length_set]; exact h x (by simp [hx])) hn.2, nth_set _ _ _ _ (h i (by simp))]
    by_cases h1 : i = j
    · subst h1; simp [hn.1]
    · have h2 : ¬ j = i := fun e => h1 e.symm
      simp [h1, h2]
theorem sumI_qs (a S : Nat) : ∀ ns : List Nat, sumI (qsK a S ns) = ((givenK a S ns : Nat) : Int)
  | [] => rfl
  | s :: r => by
    have ih := sumI_qs a S r
    unfold qsK at ih ⊢
    simp only [List.map_cons, sumI, givenK, ih]
    omega
theorem orderN_nodup (rs : List Int) (N : Nat) : (orderN rs N).Nodup := by
  have hl := orderN_len rs N
  rw [List.nodup_iff_pairwise_ne, List.pairwise_iff_getElem]
  intro i j hi hj hij h
  refine order_inj rs N i j hij (by omega) ?_
  simpa [nth, List.getD_eq_getElem?_getD, List.getElem?_eq_getElem hi, List.getElem?_eq_getElem hj] using h
theorem order_in (rs : List Int) (N L : Nat) (hL : L ≤ N + 1) : ∀ i ∈ (orderN rs N).take L, i < N + 1 := by
  intro i hi
  obtain ⟨k, hk, rfl⟩ := (mem_take_order rs N L i hL).1 hi
  exact orderN_lt rs N k (by omega)
theorem ns_pos {ns : List Nat} (h : 0 < sumN ns) : 0 < ns.length := by
  cases ns with
  | nil => simp at h
  | cons x r => simp
@[simp] theorem splitS_len (a : Nat) (ns : List Nat) : (splitS a ns).length = ns.length := by
  unfold splitS; rw [bump_len, qs_len]
theorem splitS_sum (a : Nat) (ns : List Nat) (h : 0 < sumN ns) : sumI (splitS a ns) = (a : Int) := by
  obtain ⟨h1, h2⟩ := left_bd a ns h
  have hp := ns_pos h
  have hol := orderN_len (rsK a (sumN ns) ns) (ns.length - 1)
  unfold splitS
  rw [sumI_bump _ _ (fun i hi => by
    have := order_in _ _ _ (by omega) i hi
    rw [qs_len]; omega), sumI_qs, take_len _ _ (by omega)]
  omega
theorem nth_qs (a S : Nat) (ns : List Nat) (k : Nat) (h : k < ns.length) : nth (qsK a S ns) k = ((a * nth ns k / S : Nat) : Int) := by
  simp [qsK, nth, List.getD_eq_getElem?_getD, List.getElem?_map, List.getElem?_eq_getElem h]
theorem nth_rs (a S : Nat) (ns : List Nat) (k : Nat) (h : k < ns.length) : nth (rsK a S ns) k = ((a * nth ns k % S : Nat) : Int) := by
  simp [rsK, nth, List.getD_eq_getElem?_getD, List.getElem?_map, List.getElem?_eq_getElem h]
theorem splitS_at (a : Nat) (ns : List Nat) (h : 0 < sumN ns) (k : Nat) (hk : k < ns.length) : nth (splitS a ns) k = ((a * nth ns k / sumN ns : Nat) : Int) + (if k ∈ (orderN (rsK a (sumN ns) ns) (ns.length - 1)).take (a - givenK a (sumN ns) ns) then 1 else 0) := by
  obtain ⟨h1, h2⟩ := left_bd a ns h
  unfold splitS
  rw [nth_bump _ _ _ (fun i hi => by
    have := order_in _ _ _ (by omega) i hi
    rw [qs_len]; omega) (List.Nodup.sublist (List.take_sublist _ _) (orderN_nodup _ _)), nth_qs _ _ _ _ hk]
theorem splitS_pos (a : Nat) (ns : List Nat) (h : 0 < sumN ns) (k : Nat) (hk : k < ns.length) : 0 ≤ nth (splitS a ns) k := by
  rw [splitS_at a ns h k hk]
  generalize a * nth ns k / sumN ns = q
  split <;> omega
theorem sumI_nonneg : ∀ (l : List Int), (∀ k, k < l.length → 0 ≤ nth l k) → 0 ≤ sumI l
  | [], _ => Int.le_refl _
  | x :: r, h => by
    have h0 := h 0 (by simp)
    rw [show nth (x :: r) 0 = x from rfl] at h0
    have ih := sumI_nonneg r (fun k hk => by have := h (k + 1) (by simpa using hk); exact this)
    simp only [sumI]; omega
theorem nth_le_sumI : ∀ (l : List Int), (∀ k, k < l.length → 0 ≤ nth l k) → ∀ k, k < l.length → nth l k ≤ sumI l
  | x :: r, h, 0, _ => by
    have ih := sumI_nonneg r (fun k hk => by have := h (k + 1) (by simpa using hk); exact this)
    show x ≤ x + sumI r
    omega
  | x :: r, h, k + 1, hk => by
    have h0 := h 0 (by simp)
    rw [show nth (x :: r) 0 = x from rfl] at h0
    have ih := nth_le_sumI r (fun k hk => by have := h (k + 1) (by simpa using hk); exact this) k (by simpa using hk)
    show nth r k ≤ x + sumI r
    omega
theorem splitS_le (a : Nat) (ns : List Nat) (h : 0 < sumN ns) (k : Nat) (hk : k < ns.length) : nth (splitS a ns) k ≤ (a : Int) := by
  have := nth_le_sumI (splitS a ns) (fun k hk => splitS_pos a ns h k (by rwa [splitS_len] at hk)) k (by rw [splitS_len]; exact hk)
  rwa [splitS_sum a ns h] at this
end Go.Proofs.YtpjhpmpbdfeajaaGreatDoor

