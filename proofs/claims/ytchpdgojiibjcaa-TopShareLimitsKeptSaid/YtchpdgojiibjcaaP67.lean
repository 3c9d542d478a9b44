/- Contracts of functions for this claim: lemmas alone. -/
import Derived.Test.YtchpdgojiibjcaaP31
import Derived.Test.YtchpdgojiibjcaaLq
import Derived.Test.YtchpdgojiibjcaaP12
set_option linter.unusedSimpArgs false
set_option linter.unusedVariables false
namespace Go.Proofs.Ytchpdgojiibjcaa
open Go Go.Fi
set_option maxRecDepth 20000

/-! ### copies in places of their own -/
@[simp] theorem iA_frs : ∀ l : List Int, AV.frs.frsL (iA l) = true
  | [] => rfl
  | x :: l => by show (AV.frs (.w false false (.int .i64 x)) && AV.frs.frsL (iA l)) = true; rw [iA_frs l]; rfl
@[simp] theorem iA_ones (l : List Int) : ones (iA l) = true := ones_map false false _ (ints_one l)
@[simp] theorem iA_sh (n : Nat) (l : List Int) : AV.sh.shL n (iA l) = iA l := shL_map n false false _
theorem copyInts_mk (l : List Int) (h : l.length < 100000) : MkCall Try.prog 82 [.sl l.length (ints l)] [iA l] (.msl 0 l.length 1 0 l.length) := by
  have e : (ints l).map (AV.w false false) = iA l := rfl
  refine mkcall_intro 0 [] Try.func82 (by kernel_rfl) rfl (Nat.le_of_ble_eq_true (by kernel_rfl)) (by simp) (by simp) ?_
  simp only [Try.results82, Try.ntmps82]
  repeat' (first | (with_reducible first | refine awp_seq ?_ | refine awp_blockS ?_ | refine awp_blockC ?_ | refine awp_blockR ?_ | refine awp_skip ?_ | refine awp_ret ?_ | refine awp_exit ?_ | refine awp_region ?_ | refine awp_condM ?_ | refine And.intro ?_ ?_ | apply gQ_merge | apply gE_merge | exact EqV_w | exact EqE_w | exact EqV_ptr | exact EqE_ptr | exact EqV_msl | exact EqE_msl | exact EqV_agg | exact EqE_agg | exact EqV_fn | exact EqE_fn | exact EqV_gd | exact EqE_gd | refine gM_splitN ?_ ?_ | refine gM_split ?_ ?_ |  refine condM_splitDN ?_ ?_ | refine condM_splitD ?_ ?_ | refine condM_splitN ?_ ?_ | refine condM_split ?_ ?_ | refine condM_any ?_ ?_ | intro _) | (simp [*, e]))
  all_goals try omega
/-! ### rows in places of their own -/
@[simp] theorem selfL_iA (M : List (List Int)) : selfL (M.map iA) = True := eq_true fun c hc D h n n' => by
  obtain ⟨r, _, rfl⟩ := List.mem_map.1 hc
  exact cellsLe_w false false _
theorem famShift (M : List (List Int)) : (M.map iA) = (M.map ints).map fun c => c.map (AV.w false false) := by
  rw [List.map_map]; rfl
theorem rows_frz {h : Heap} {d b : Nat} {ls : List Nat} (M : List (List Int)) (hl : M.map List.length = ls) (hd : 0 < d) (hf : famIn h b (M.map iA)) : (ms1 b ls).mapM (frz h d) = some (cRows M) := by
  have := ms1_frz (d := d) hd (M.map ints) b (by rw [← famShift]; exact hf)
  rw [List.map_map] at this
  have e1 : M.map (List.length ∘ ints) = ls := by rw [← hl]; exact List.map_congr_left (fun r _ => by simp)
  rw [e1] at this
  rw [this, List.map_map]
  congr 1
  exact List.map_congr_left (fun r _ => by simp [cRow])
theorem rows_fresh {h : Heap} {d b : Nat} {ls : List Nat} (M : List (List Int)) (hl : M.map List.length = ls) (hf : famIn h b (M.map iA)) : (ms1 b ls).all (freshA h (d + 1)) = true := by
  have := ms1_fresh (d := d) (M.map ints) b (fun c hc => by obtain ⟨r, _, rfl⟩ := List.mem_map.1 hc; exact ints_flat r) (by rw [← famShift]; exact hf)
  rw [List.map_map] at this
  have e1 : M.map (List.length ∘ ints) = ls := by rw [← hl]; exact List.map_congr_left (fun r _ => by simp)
  rw [e1] at this
  exact this
@[simp] theorem iA_comp (n : Nat) : (AV.sh.shL n ∘ iA) = iA := funext fun l => iA_sh n l
theorem take_mapS {α β : Type} [Inhabited α] (f : α → β) (m : List α) (k : Nat) (h : k < m.length) : List.take (k + 1) (List.map f m) = List.take k (List.map f m) ++ [f (nth m k)] := by
  rw [← List.map_take, take_succ_nth m k h, List.map_append, List.map_take]; rfl
set_option maxHeartbeats 4000000 in
theorem copyLists_mk (m : Grid) (hm : GridIn m) : MkCall Try.prog 40 [.sl m.length (cRows m)] (ms1 1 (m.map List.length) :: m.map iA) (.msl 0 m.length 1 0 m.length) := by
  have hl := hm.len
  have hrow := hm.row
  clear hm
  refine mkcall_intro 0 [] Try.func40 (by kernel_rfl) rfl (Nat.le_of_ble_eq_true (by kernel_rfl)) (by simp) ?_ ?_
  · intro c hc
    rcases List.mem_cons.1 hc with h | h
    · subst h; simp
    · obtain ⟨r, _, rfl⟩ := List.mem_map.1 h; simp
  simp only [Try.results40, Try.ntmps40]
  repeat' (first | (with_reducible first | refine awp_seq ?_ | refine awp_blockS ?_ | refine awp_blockC ?_ | refine awp_blockR ?_ | refine awp_skip ?_ | refine awp_ret ?_ | refine awp_exit ?_ | refine awp_region ?_ | refine awp_condM ?_ | refine And.intro ?_ ?_ | apply gQ_merge | apply gE_merge | exact EqV_w | exact EqE_w | exact EqV_ptr | exact EqE_ptr | exact EqV_msl | exact EqE_msl | exact EqV_agg | exact EqE_agg | exact EqV_fn | exact EqE_fn | exact EqV_gd | exact EqE_gd | refine gM_splitN ?_ ?_ | refine gM_split ?_ ?_ |  refine condM_splitDN ?_ ?_ | refine condM_splitD ?_ ?_ | refine condM_splitN ?_ ?_ | refine condM_split ?_ ?_ | refine condM_any ?_ ?_ | intro _) | (simp [*]))
  refine awp_for5 (fun (k : Nat) => k + 1) (fun (_u : Unit) => m.length + 1) (fun (k : Nat) => k ≤ m.length) [0] (fun (k : Nat) => [(3, .msl 0 k 1 0 k), (4, .w false false (.int .i64 k))]) [] (fun (k : Nat) => (0, ms1 1 ((m.take k).map List.length)) :: addE [] 1 ((m.take k).map iA)) (fun (k : Nat) => m.length - k) (fun (_u : Unit) => True) [] (fun (_u : Unit) => [(3, .msl 0 m.length 1 0 m.length)]) [] (fun (_u : Unit) => (0, ms1 1 (m.map List.length)) :: addE [] 1 (m.map iA)) (0) (Nat.zero_le _) (le_gen [] (by simp) (by simp)) (fun k hk => ?_) (fun _u hf => ?_)
  · by_cases hlt : k < m.length
    · have hr1 := hrow k hlt
      have hlI : (k : Int) < (m.length : Int) := by omega
      clear hrow
      have cc := copyInts_mk (nth m k) (by omega)
      have hlen := take_len m k hk
      have k1 := keep (take_mapS iA m k hlt)
      have k2 := keep (take_mapS List.length m k hlt)
      have hmin : min k m.length = k := Nat.min_eq_left hk
      repeat' (first | (with_reducible first | refine awp_seq ?_ | refine awp_blockS ?_ | refine awp_blockC ?_ | refine awp_blockR ?_ | refine awp_skip ?_ | refine awp_ret ?_ | refine awp_exit ?_ | refine awp_region ?_ | refine awp_condM ?_ | refine And.intro ?_ ?_ | apply gQ_merge | apply gE_merge | exact EqV_w | exact EqE_w | exact EqV_ptr | exact EqE_ptr | exact EqV_msl | exact EqE_msl | exact EqV_agg | exact EqE_agg | exact EqV_fn | exact EqE_fn | exact EqV_gd | exact EqE_gd | refine gM_splitN ?_ ?_ | refine gM_split ?_ ?_ |  refine condM_splitDN ?_ ?_ | refine condM_splitD ?_ ?_ | refine condM_splitN ?_ ?_ | refine condM_split ?_ ?_ | refine condM_any ?_ ?_ | refine cwM (cc) ?_ | intro _) | (simp [*, hlt, hlI, hlen]))
      all_goals first
        | exact inI64 (by omega) (by omega)
        | omega
        | skip
      all_goals (refine loopK_normal _ _ _ _ _ (k + 1) _ ?_ (by first | omega | (dsimp only; omega) | (simp; omega)) ?_; (· omega); (refine le_gen [] ?_ ?_ <;> first | trivial | (simp [*, show List.take (k + 1) (List.map iA m) = _ from k1, show List.take (k + 1) (List.map List.length m) = _ from k2, addE_snoc, ms1_snoc, hlen]; done)))
    · have hke : k = m.length := by omega
      subst hke
      repeat' (first | (with_reducible first | refine awp_seq ?_ | refine awp_blockS ?_ | refine awp_blockC ?_ | refine awp_blockR ?_ | refine awp_skip ?_ | refine awp_ret ?_ | refine awp_exit ?_ | refine awp_region ?_ | refine awp_condM ?_ | refine And.intro ?_ ?_ | apply gQ_merge | apply gE_merge | exact EqV_w | exact EqE_w | exact EqV_ptr | exact EqE_ptr | exact EqV_msl | exact EqE_msl | exact EqV_agg | exact EqE_agg | exact EqV_fn | exact EqE_fn | exact EqV_gd | exact EqE_gd | refine gM_splitN ?_ ?_ | refine gM_split ?_ ?_ |  refine condM_splitDN ?_ ?_ | refine condM_splitD ?_ ?_ | refine condM_splitN ?_ ?_ | refine condM_split ?_ ?_ | refine condM_any ?_ ?_ | intro _) | (simp [*]))
      all_goals first
        | (refine finW_intro () ?_ ?_; (· trivial); (refine le_gen [] ?_ ?_ <;> first | trivial | (simp [*, List.take_length]; done)))
        | skip
  · repeat' (first | (with_reducible first | refine awp_seq ?_ | refine awp_blockS ?_ | refine awp_blockC ?_ | refine awp_blockR ?_ | refine awp_skip ?_ | refine awp_ret ?_ | refine awp_exit ?_ | refine awp_region ?_ | refine awp_condM ?_ | refine And.intro ?_ ?_ | apply gQ_merge | apply gE_merge | exact EqV_w | exact EqE_w | exact EqV_ptr | exact EqE_ptr | exact EqV_msl | exact EqE_msl | exact EqV_agg | exact EqE_agg | exact EqV_fn | exact EqE_fn | exact EqV_gd | exact EqE_gd | refine gM_splitN ?_ ?_ | refine gM_split ?_ ?_ |  refine condM_splitDN ?_ ?_ | refine condM_splitD ?_ ?_ | refine condM_splitN ?_ ?_ | refine condM_split ?_ ?_ | refine condM_any ?_ ?_ | intro _) | (simp [*]))
theorem copyMap_mk (m : Grid) (hm : GridIn m) : MkCall Try.prog 12 [aMap m] (ms1 1 (m.map List.length) :: m.map iA) (.agg [.msl 0 m.length 1 0 m.length]) := by
  have c1 := copyLists_mk m hm
  clear hm
  unfold aMap
  refine mkcall_intro 2 [] Try.func12 (by kernel_rfl) rfl (Nat.le_of_ble_eq_true (by kernel_rfl)) (by simp) ?_ ?_
  · intro c hc
    rcases List.mem_cons.1 hc with h | h
    · subst h; simp
    · obtain ⟨r, _, rfl⟩ := List.mem_map.1 h; simp
  simp only [Try.results12, Try.ntmps12]
  repeat' (first | (with_reducible first | refine awp_seq ?_ | refine awp_blockS ?_ | refine awp_blockC ?_ | refine awp_blockR ?_ | refine awp_skip ?_ | refine awp_ret ?_ | refine awp_exit ?_ | refine awp_region ?_ | refine awp_condM ?_ | refine And.intro ?_ ?_ | apply gQ_merge | apply gE_merge | exact EqV_w | exact EqE_w | exact EqV_ptr | exact EqE_ptr | exact EqV_msl | exact EqE_msl | exact EqV_agg | exact EqE_agg | exact EqV_fn | exact EqE_fn | exact EqV_gd | exact EqE_gd | refine gM_splitN ?_ ?_ | refine gM_split ?_ ?_ |  refine condM_splitDN ?_ ?_ | refine condM_splitD ?_ ?_ | refine condM_splitN ?_ ?_ | refine condM_split ?_ ?_ | refine condM_any ?_ ?_ | refine cwM (c1) ?_ | intro _) | (simp [*, show 2 + (List.length m + 1) = List.length m + 3 from by omega]))
end Go.Proofs.Ytchpdgojiibjcaa
namespace Go.Proofs.Ytchpdgojiibjcaa
open Go Go.Fi

/-! ### the closed map (no program in sight) -/
def cl (M : Grid) (i j : Nat) : Int := nth (nth M i) j
def mnI (a b : Int) : Int := if b < a then b else a
def stepJ (k i j : Nat) (M : Grid) : Grid := M.set i ((nth M i).set j (mnI (cl M i j) (cl M i k + cl M k j)))
def rowN (k i : Nat) (M : Grid) : Nat → Grid
  | 0 => M
  | j + 1 => stepJ k i j (rowN k i M j)
def layN (k n : Nat) (M : Grid) : Nat → Grid
  | 0 => M
  | i + 1 => rowN k i (layN k n M i) n
def cloN (n : Nat) (M : Grid) : Nat → Grid
  | 0 => M
  | k + 1 => layN k n (cloN n M k) n
def closedS (M : Grid) : Grid := cloN M.length M M.length
@[simp] theorem rowN_zero (k i : Nat) (M : Grid) : rowN k i M 0 = M := rfl
@[simp] theorem layN_zero (k n : Nat) (M : Grid) : layN k n M 0 = M := rfl
@[simp] theorem cloN_zero (n : Nat) (M : Grid) : cloN n M 0 = M := rfl
structure Sq (n : Nat) (M : Grid) : Prop where
  len : M.length = n
  row : ∀ i, i < n → (nth M i).length = n
  bd : ∀ i j, i < n → j < n → 0 ≤ cl M i j ∧ cl M i j ≤ 20000
  dg : ∀ i, i < n → cl M i i = 0
theorem nth_set_eq {α : Type} [Inhabited α] (l : List α) (i : Nat) (x : α) (h : i < l.length) : nth (l.set i x) i = x := by
  simp [nth, List.getD_eq_getElem?_getD, h]
theorem nth_set_ne {α : Type} [Inhabited α] (l : List α) (i j : Nat) (x : α) (h : i ≠ j) : nth (l.set i x) j = nth l j := by
  simp [nth, List.getD_eq_getElem?_getD, h]
section
variable {n k i j : Nat} {M : Grid}
theorem step_len : (stepJ k i j M).length = M.length := by simp [stepJ]
theorem step_row (hl : M.length = n) (hr : ∀ i, i < n → (nth M i).length = n) {a : Nat} (ha : a < n) : (nth (stepJ k i j M) a).length = n := by
  unfold stepJ
  by_cases h : i = a
  · subst h
    rw [nth_set_eq _ _ _ (by omega), List.length_set]; exact hr _ ha
  · rw [nth_set_ne _ _ _ _ h]; exact hr _ ha
theorem cl_step (hl : M.length = n) (hr : ∀ i, i < n → (nth M i).length = n) (hi : i < n) (hj : j < n) (a b : Nat) :
    cl (stepJ k i j M) a b = if a = i ∧ b = j then mnI (cl M i j) (cl M i k + cl M k j) else cl M a b := by
  unfold stepJ cl
  by_cases h : i = a
  · subst h
    rw [nth_set_eq _ _ _ (by omega)]
    by_cases h2 : j = b
    · subst h2
      rw [nth_set_eq _ _ _ (by rw [hr i hi]; exact hj), if_pos ⟨rfl, rfl⟩]
    · rw [nth_set_ne _ _ _ _ h2, if_neg (fun h => h2 h.2.symm)]
  · rw [nth_set_ne _ _ _ _ h, if_neg (fun h2 => h h2.1.symm)]
theorem mnI_self (a : Int) : mnI a (a + 0) = a := by unfold mnI; rw [if_neg (by omega)]
theorem mnI_self' (a : Int) : mnI a (0 + a) = a := by unfold mnI; rw [if_neg (by omega)]
theorem mnI_le (a b : Int) : mnI a b ≤ a ∧ mnI a b ≤ b ∧ (mnI a b = a ∨ mnI a b = b) := by unfold mnI; split <;> omega
theorem rowN_shape (hl : M.length = n) (hr : ∀ i, i < n → (nth M i).length = n) : ∀ j, (rowN k i M j).length = n ∧ ∀ a, a < n → (nth (rowN k i M j) a).length = n
  | 0 => ⟨hl, hr⟩
  | j + 1 => by
    have ih := rowN_shape hl hr j
    exact ⟨by show (stepJ k i j (rowN k i M j)).length = n; rw [step_len]; exact ih.1, fun a ha => step_row ih.1 ih.2 ha⟩
theorem rowN_cl (h : Sq n M) (hk : k < n) (hi : i < n) : ∀ j, j ≤ n → ∀ a b, cl (rowN k i M j) a b = if a = i ∧ b < j then mnI (cl M i b) (cl M i k + cl M k b) else cl M a b
  | 0, _, a, b => by rw [if_neg (fun h => Nat.not_lt_zero _ h.2)]; rfl
  | j + 1, hj, a, b => by
    have ih := rowN_cl h hk hi j (by omega)
    have sh := rowN_shape (k := k) (i := i) h.len h.row j
    show cl (stepJ k i j (rowN k i M j)) a b = _
    rw [cl_step sh.1 sh.2 hi (by omega), ih i j, ih i k, ih k j, if_neg (fun h : i = i ∧ j < j => Nat.lt_irrefl _ h.2), if_neg (fun h : k = i ∧ j < j => Nat.lt_irrefl _ h.2)]
    have e : (if i = i ∧ k < j then mnI (cl M i k) (cl M i k + cl M k k) else cl M i k) = cl M i k := by
      split
      · rw [h.dg k hk, mnI_self]
      · rfl
    rw [e, ih a b]
    by_cases h1 : a = i ∧ b = j
    · obtain ⟨rfl, rfl⟩ := h1
      rw [if_pos ⟨rfl, rfl⟩, if_pos ⟨rfl, Nat.lt_succ_self _⟩]
    · rw [if_neg h1]
      by_cases h2 : a = i ∧ b < j
      · rw [if_pos h2, if_pos ⟨h2.1, by omega⟩]
      · rw [if_neg h2, if_neg (by omega)]
theorem rowN_sq (h : Sq n M) (hk : k < n) (hi : i < n) {j : Nat} (hj : j ≤ n) : Sq n (rowN k i M j) := by
  have sh := rowN_shape (k := k) (i := i) h.len h.row j
  refine ⟨sh.1, sh.2, fun a b ha hb => ?_, fun a ha => ?_⟩
  · rw [rowN_cl h hk hi j hj]
    split
    · have h1 := h.bd i b hi hb
      have h2 := h.bd i k hi hk
      have h3 := h.bd k b hk hb
      have := mnI_le (cl M i b) (cl M i k + cl M k b)
      omega
    · exact h.bd a b ha hb
  · rw [rowN_cl h hk hi j hj]
    split
    · rename_i e
      obtain ⟨rfl, _⟩ := e
      have h2 := h.bd a k hi hk
      have h3 := h.bd k a hk hi
      have := mnI_le (cl M a a) (cl M a k + cl M k a)
      have := h.dg a hi
      omega
    · exact h.dg a ha
theorem layN_sq (h : Sq n M) (hk : k < n) : ∀ {i : Nat}, i ≤ n → Sq n (layN k n M i)
  | 0, _ => h
  | i + 1, hi => rowN_sq (layN_sq h hk (by omega)) hk (by omega) (Nat.le_refl _)
theorem layN_cl (h : Sq n M) (hk : k < n) : ∀ i, i ≤ n → ∀ a b, b < n → cl (layN k n M i) a b = if a < i then mnI (cl M a b) (cl M a k + cl M k b) else cl M a b
  | 0, _, a, b, _ => by rw [if_neg (Nat.not_lt_zero _)]; rfl
  | i + 1, hi, a, b, hb => by
    have ih := layN_cl h hk i (by omega)
    have sq := layN_sq h hk (i := i) (by omega)
    show cl (rowN k i (layN k n M i) n) a b = _
    rw [rowN_cl sq hk (by omega) n (Nat.le_refl _), ih i b hb, ih i k hk, ih k b hb, if_neg (Nat.lt_irrefl _), if_neg (Nat.lt_irrefl _)]
    have e : (if k < i then mnI (cl M k b) (cl M k k + cl M k b) else cl M k b) = cl M k b := by
      split
      · rw [h.dg k hk, mnI_self']
      · rfl
    rw [e, ih a b hb]
    by_cases h1 : a = i
    · subst h1
      rw [if_pos ⟨rfl, hb⟩, if_pos (Nat.lt_succ_self _)]
    · rw [if_neg (fun h => h1 h.1)]
      by_cases h2 : a < i
      · rw [if_pos h2, if_pos (by omega)]
      · rw [if_neg h2, if_neg (by omega)]
theorem cloN_sq (h : Sq n M) : ∀ {k : Nat}, k ≤ n → Sq n (cloN n M k)
  | 0, _ => h
  | k + 1, hk => layN_sq (cloN_sq h (by omega)) (by omega) (Nat.le_refl _)
theorem cloN_cl (h : Sq n M) {k a b : Nat} (hk : k < n) (ha : a < n) (hb : b < n) : cl (cloN n M (k + 1)) a b = mnI (cl (cloN n M k) a b) (cl (cloN n M k) a k + cl (cloN n M k) k b) := by
  show cl (layN k n (cloN n M k) n) a b = _
  rw [layN_cl (cloN_sq h (by omega)) hk n (Nat.le_refl _) a b hb, if_pos ha]
theorem cloN_le (h : Sq n M) : ∀ {k : Nat}, k ≤ n → ∀ a b, a < n → b < n → cl (cloN n M k) a b ≤ cl M a b
  | 0, _, a, b, _, _ => Int.le_refl _
  | k + 1, hk, a, b, ha, hb => by
    have ih := cloN_le h (k := k) (by omega) a b ha hb
    rw [cloN_cl h (by omega) ha hb]
    have := mnI_le (cl (cloN n M k) a b) (cl (cloN n M k) a k + cl (cloN n M k) k b)
    omega
/-- no way over a place below K is shorter -/
theorem cloN_tri (h : Sq n M) : ∀ {K : Nat}, K ≤ n → ∀ k, k < K → ∀ a b, a < n → b < n → cl (cloN n M K) a b ≤ cl (cloN n M K) a k + cl (cloN n M K) k b
  | 0, _, k, hk, _, _, _, _ => absurd hk (Nat.not_lt_zero _)
  | K + 1, hK, k, hk, a, b, ha, hb => by
    have sq := cloN_sq h (k := K) (by omega)
    rw [cloN_cl h (by omega) ha hb, cloN_cl h (k := K) (b := k) (by omega) ha (by omega), cloN_cl h (k := K) (a := k) (by omega) (by omega) hb]
    have ih := fun k hk => cloN_tri h (K := K) (by omega) k hk
    generalize cloN n M K = A at *
    have m1 := mnI_le (cl A a b) (cl A a K + cl A K b)
    have m2 := mnI_le (cl A a k) (cl A a K + cl A K k)
    have m3 := mnI_le (cl A k b) (cl A k K + cl A K b)
    have b1 := sq.bd K k (by omega) (by omega)
    have b2 := sq.bd k K (by omega) (by omega)
    rcases Nat.lt_or_ge k K with hlt | hge
    · have t1 := ih k hlt a b ha hb
      have t2 := ih k hlt K b (by omega) hb
      have t3 := ih k hlt a K ha (by omega)
      omega
    · have : k = K := by omega
      subst this
      have d := sq.dg k (by omega)
      omega
def Tri (n : Nat) (M : Grid) : Prop := ∀ i k j, i < n → k < n → j < n → cl M i j ≤ cl M i k + cl M k j
theorem closed_tri (h : Sq n M) : Tri n (closedS M) := fun i k j hi hk hj => by
  unfold closedS
  rw [h.len]
  exact cloN_tri h (Nat.le_refl n) k hk i j hi hj
theorem closed_sq (h : Sq n M) : Sq n (closedS M) := by unfold closedS; rw [h.len]; exact cloN_sq h (Nat.le_refl n)
theorem closed_le (h : Sq n M) {a b : Nat} (ha : a < n) (hb : b < n) : cl (closedS M) a b ≤ cl M a b := by unfold closedS; rw [h.len]; exact cloN_le h (Nat.le_refl n) a b ha hb
theorem set_nth_self {α : Type} [Inhabited α] : ∀ (l : List α) (k : Nat), l.set k (nth l k) = l
  | [], k => by simp
  | x :: l, 0 => rfl
  | x :: l, k + 1 => by
    show x :: l.set k (nth l k) = x :: l
    rw [set_nth_self l k]
theorem step_same (ht : Tri n M) (hk : k < n) (hi : i < n) (hj : j < n) : stepJ k i j M = M := by
  unfold stepJ
  have h1 := ht i k j hi hk hj
  have h2 : mnI (cl M i j) (cl M i k + cl M k j) = cl M i j := by unfold mnI; rw [if_neg (by omega)]
  rw [h2]
  unfold cl
  rw [set_nth_self, set_nth_self]
theorem rowN_same (ht : Tri n M) (hk : k < n) (hi : i < n) : ∀ j, j ≤ n → rowN k i M j = M
  | 0, _ => rfl
  | j + 1, hj => by
    show stepJ k i j (rowN k i M j) = M
    rw [rowN_same ht hk hi j (by omega), step_same ht hk hi (by omega)]
theorem layN_same (ht : Tri n M) (hk : k < n) : ∀ i, i ≤ n → layN k n M i = M
  | 0, _ => rfl
  | i + 1, hi => by
    show rowN k i (layN k n M i) n = M
    rw [layN_same ht hk i (by omega), rowN_same ht hk (by omega) n (Nat.le_refl _)]
theorem cloN_same (ht : Tri n M) : ∀ k, k ≤ n → cloN n M k = M
  | 0, _ => rfl
  | k + 1, hk => by
    show layN k n (cloN n M k) n = M
    rw [cloN_same ht k (by omega), layN_same ht (by omega) n (Nat.le_refl _)]
theorem closed_same (h : Sq n M) (ht : Tri n M) : closedS M = M := by unfold closedS; rw [h.len]; exact cloN_same ht n (Nat.le_refl _)
end
theorem MapOk.sq_ {m : Grid} (h : MapOk m) : Sq m.length m := ⟨rfl, h.sq, h.cell, h.diag⟩
theorem Sq.ok {n : Nat} {m : Grid} (h : Sq n m) (h0 : 0 < n) (h1 : n ≤ 12) : MapOk m := by
  have e := h.len
  subst e
  exact ⟨h0, h1, h.row, h.bd, h.dg⟩
end Go.Proofs.Ytchpdgojiibjcaa
