/- A logic of abstract states for this claim (part Lv): lemmas alone. -/
import Derived.Test.YtfpamehamllndaaGreatDoorLr
set_option linter.unusedSimpArgs false
set_option linter.unusedVariables false

namespace Go.Fi
open Go Go.RowKit

/-! ### texts cut at a byte, in plain lists -/
def cutL (c : UInt8) : List UInt8 → List (List UInt8)
  | [] => [[]]
  | b :: l => if b = c then [] :: cutL c l else
    match cutL c l with
    | [] => [[b]]
    | h :: t => (b :: h) :: t
theorem cutL_ne (c : UInt8) (l : List UInt8) : cutL c l ≠ [] := by
  cases l with
  | nil => simp [cutL]
  | cons b l =>
    unfold cutL
    split
    · simp
    · split <;> simp
theorem cutL_splitK (c : UInt8) : ∀ l : List UInt8, Lib.splitK [c] 0 (Lib.count l [c]) l = cutL c l
  | [] => by
    rw [Lib.count_one]
    rfl
  | b :: l => by
    have ih := cutL_splitK c l
    by_cases h : b = c
    · subst h
      rw [Lib.count_cons_eq, Nat.add_comm]
      unfold Lib.splitK cutL
      have hix : Lib.index (b :: l) [b] = 0 := by rw [Lib.index]; simp [List.isPrefixOf]
      rw [hix, if_neg (by decide), if_pos rfl]
      simp only [Int.toNat_zero, Nat.zero_add, List.take_zero, List.length_singleton, List.drop_succ_cons, List.drop_zero]
      rw [ih]
    · rw [Lib.count_cons_ne b c l h]
      have hp : ([c] : List UInt8).isPrefixOf (b :: l) = false := by simp [List.isPrefixOf, Ne.symm h]
      have hix : Lib.index (b :: l) [c] = if Lib.index l [c] == -1 then -1 else Lib.index l [c] + 1 := by rw [Lib.index, hp]; simp
      unfold cutL
      rw [if_neg h]
      cases hk : Lib.count l [c] with
      | zero =>
        rw [hk] at ih
        rw [← ih]
        rfl
      | succ k =>
        rw [hk] at ih
        have hm : ¬ Lib.index l [c] = -1 := fun e => by rw [Lib.count_miss e] at hk; cases hk
        have hge := Lib.index_ge l [c]
        obtain ⟨j, hj⟩ : ∃ j : Nat, Lib.index l [c] = j := ⟨(Lib.index l [c]).toNat, by omega⟩
        have hj1 : ¬ (Lib.index l [c] == -1) = true := fun e => hm (beq_iff_eq.1 e)
        rw [← ih]
        unfold Lib.splitK
        rw [hix, if_neg hj1, if_neg hj1, hj]
        have hj2 : ¬ (((j : Int) + 1) == -1) = true := fun e => by have := beq_iff_eq.1 e; omega
        rw [if_neg hj2]
        have e1 : ((j : Int) + 1).toNat = j + 1 := by omega
        rw [e1]
        simp
theorem pieces_cut (s : ByteArray) (c : UInt8) : (pieces s ⟨#[c]⟩).map (·.data.toList) = cutL c s.data.toList := by
  unfold pieces
  rw [Lib.splitB_data]
  exact cutL_splitK c s.data.toList
theorem cutL_snoc_eq (c : UInt8) : ∀ l : List UInt8, cutL c (l ++ [c]) = cutL c l ++ [[]]
  | [] => by simp [cutL]
  | b :: l => by
    have ih := cutL_snoc_eq c l
    rw [List.cons_append]
    unfold cutL
    rw [ih]
    by_cases h : b = c
    · rw [if_pos h, if_pos h]; rfl
    · rw [if_neg h, if_neg h]
      cases hc : cutL c l with
      | nil => exact absurd hc (cutL_ne c l)
      | cons x t => rfl
theorem cutL_snoc_ne (c b : UInt8) (hb : b ≠ c) : ∀ (l : List UInt8) (i : List (List UInt8)) (x : List UInt8), cutL c l = i ++ [x] → cutL c (l ++ [b]) = i ++ [x ++ [b]]
  | [], i, x, h => by
    unfold cutL at h
    have : i = [] ∧ x = [] := by
      cases i with
      | nil => exact ⟨rfl, by simpa using h.symm⟩
      | cons a t => simp at h
    obtain ⟨rfl, rfl⟩ := this
    simp [cutL, hb]
  | a :: l, i, x, h => by
    rw [List.cons_append]
    unfold cutL at h ⊢
    by_cases ha : a = c
    · rw [if_pos ha] at h ⊢
      cases i with
      | nil =>
        rw [List.nil_append] at h
        injection h with _ h2
        exact absurd h2 (cutL_ne c l)
      | cons y t =>
        rw [List.cons_append] at h
        injection h with h1 h2
        rw [cutL_snoc_ne c b hb l t x h2, ← h1]
        rfl
    · rw [if_neg ha] at h ⊢
      cases hc : cutL c l with
      | nil => exact absurd hc (cutL_ne c l)
      | cons y t =>
        rw [hc] at h
        dsimp only at h
        cases i with
        | nil =>
          rw [List.nil_append] at h
          injection h with h1 h2
          subst h2
          have := cutL_snoc_ne c b hb l [] y (by rw [hc]; rfl)
          rw [this, ← h1]
          rfl
        | cons z u =>
          rw [List.cons_append] at h
          injection h with h1 h2
          have := cutL_snoc_ne c b hb l (y :: u) x (by rw [hc, h2]; rfl)
          rw [this, ← h1]
          rfl
/-- words that hold no such byte, put together with it between them, are cut into these words -/
def glue (c : UInt8) : List (List UInt8) → List UInt8
  | [] => []
  | [w] => w
  | w :: r => w ++ c :: glue c r
theorem cutL_word (c : UInt8) : ∀ (w r : List UInt8), c ∉ w → cutL c (w ++ c :: r) = w :: cutL c r
  | [], r, _ => by rw [List.nil_append]; rw [cutL, if_pos rfl]
  | b :: w, r, h => by
    rw [List.cons_append, cutL, if_neg (fun e => h (by rw [e]; simp)), cutL_word c w r (fun e => h (by simp [e]))]
theorem cutL_one (c : UInt8) : ∀ w : List UInt8, c ∉ w → cutL c w = [w]
  | [], _ => rfl
  | b :: w, h => by
    rw [cutL, if_neg (fun e => h (by rw [e]; simp)), cutL_one c w (fun e => h (by simp [e]))]
theorem cutL_glue (c : UInt8) : ∀ ws : List (List UInt8), ws ≠ [] → (∀ w ∈ ws, c ∉ w) → cutL c (glue c ws) = ws
  | [], h, _ => absurd rfl h
  | [w], _, h => cutL_one c w (h w (by simp))
  | w :: x :: r, _, h => by
    rw [show glue c (w :: x :: r) = w ++ c :: glue c (x :: r) from rfl, cutL_word c w _ (h w (by simp)), cutL_glue c (x :: r) (by simp) (fun y hy => h y (by simp [hy]))]
/-! the same, in texts: how far the cutting has come -/
def cutFr (c : UInt8) (s : ByteArray) : Nat → Nat
  | 0 => 0
  | i + 1 => if s.data.toList.getD i 0 = c then i + 1 else cutFr c s i
def cutCl (c : UInt8) (s : ByteArray) : Nat → List ByteArray
  | 0 => []
  | i + 1 => if s.data.toList.getD i 0 = c then cutCl c s i ++ [s.extract (cutFr c s i) i] else cutCl c s i
theorem cutFr_succ (c : UInt8) (s : ByteArray) (i : Nat) : cutFr c s (i + 1) = if s.data.toList.getD i 0 = c then i + 1 else cutFr c s i := rfl
theorem cutCl_succ (c : UInt8) (s : ByteArray) (i : Nat) : cutCl c s (i + 1) = if s.data.toList.getD i 0 = c then cutCl c s i ++ [s.extract (cutFr c s i) i] else cutCl c s i := rfl
theorem cutFr_le (c : UInt8) (s : ByteArray) : ∀ i, cutFr c s i ≤ i
  | 0 => Nat.le_refl _
  | i + 1 => by
    unfold cutFr
    have := cutFr_le c s i
    split <;> omega
theorem cutCl_len (c : UInt8) (s : ByteArray) : ∀ i, (cutCl c s i).length ≤ i
  | 0 => Nat.le_refl _
  | i + 1 => by
    have := cutCl_len c s i
    rw [cutCl_succ]
    split
    · simp; omega
    · omega
theorem ext_list (s : ByteArray) (a b : Nat) : (s.extract a b).data.toList = (s.data.toList.take b).drop a := by
  rw [Lib.extract_data]
  simp [List.drop_take]
theorem cut_upto (c : UInt8) (s : ByteArray) : ∀ i, i ≤ s.data.toList.length → cutL c (s.data.toList.take i) = (cutCl c s i).map (·.data.toList) ++ [(s.extract (cutFr c s i) i).data.toList]
  | 0, _ => by
    unfold cutCl cutFr
    rw [ext_list]
    simp [cutL]
  | i + 1, hi => by
    have ih := cut_upto c s i (by omega)
    have hb : s.data.toList.take (i + 1) = s.data.toList.take i ++ [s.data.toList.getD i 0] := by
      rw [List.take_succ_eq_append_getElem (by omega)]
      simp [List.getD_eq_getElem?_getD, List.getElem?_eq_getElem (show i < s.data.toList.length by omega)]
    rw [cutFr_succ, cutCl_succ]
    by_cases h : s.data.toList.getD i 0 = c
    · rw [if_pos h, if_pos h, hb, h, cutL_snoc_eq, ih]
      have e : (s.extract (i + 1) (i + 1)).data.toList = [] := by rw [ext_list]; simp
      rw [e, List.map_append]
      rfl
    · rw [if_neg h, if_neg h, hb, cutL_snoc_ne c _ h _ _ _ ih]
      rw [ext_list, ext_list]
      congr 1
      have hf := cutFr_le c s i
      rw [hb, List.drop_append_of_le_length (by rw [List.length_take]; omega)]
theorem ba_ext {a b : ByteArray} (h : a.data.toList = b.data.toList) : a = b := by
  cases a; cases b; congr 1; exact Array.toList_inj.1 h
theorem map_inj_ba : ∀ {l r : List ByteArray}, l.map (·.data.toList) = r.map (·.data.toList) → l = r
  | [], [], _ => rfl
  | [], _ :: _, h => by simp at h
  | _ :: _, [], h => by simp at h
  | a :: l, b :: r, h => by
    simp only [List.map_cons] at h
    injection h with h1 h2
    rw [ba_ext h1, map_inj_ba h2]
theorem cut_pieces (c : UInt8) (s : ByteArray) : pieces s ⟨#[c]⟩ = cutCl c s s.size ++ [s.extract (cutFr c s s.size) s.size] := by
  apply map_inj_ba
  have h := cut_upto c s s.size (Nat.le_of_eq rfl)
  have e : s.data.toList.take s.size = s.data.toList := List.take_of_length_le (Nat.le_of_eq rfl)
  rw [e] at h
  rw [pieces_cut, h]
  simp
theorem glue_join (c : UInt8) : ∀ ws : List (List UInt8), glue c ws = Lib.join ws [c]
  | [] => by simp [glue, Lib.join]
  | [w] => by simp [glue, Lib.join]
  | w :: x :: r => by
    have ih := glue_join c (x :: r)
    simp only [glue] at ih ⊢
    rw [ih]
    simp [Lib.join]
theorem pieces_glue (c : UInt8) (ws : List ByteArray) (s : ByteArray) (h0 : ws ≠ []) (h : ∀ w ∈ ws, c ∉ w.data.toList) (hs : s.data.toList = glue c (ws.map (·.data.toList))) : pieces s ⟨#[c]⟩ = ws := by
  apply map_inj_ba
  rw [pieces_cut, hs]
  refine cutL_glue c _ (by simpa using h0) (fun w hw => ?_)
  obtain ⟨x, hx, rfl⟩ := List.mem_map.1 hw
  exact h x hx
/-! texts put together word by word -/
theorem joinB_one (x sep : ByteArray) : joinB [x] sep = x := by
  apply ba_ext
  simp [joinB, Lib.join]
theorem pieces_join (c : UInt8) (ws : List ByteArray) (h0 : ws ≠ []) (h : ∀ w ∈ ws, c ∉ w.data.toList) : pieces (joinB ws ⟨#[c]⟩) ⟨#[c]⟩ = ws := by
  refine pieces_glue c ws _ h0 h ?_
  rw [glue_join]
  unfold joinB
  simp
theorem joinB_size (sep : ByteArray) (m : Nat) : ∀ l : List ByteArray, (∀ x ∈ l, x.size ≤ m) → (joinB l sep).size ≤ l.length * (m + sep.size)
  | l, h => by
    have hj : ∀ l : List (List UInt8), (∀ x ∈ l, x.length ≤ m) → (Lib.join l sep.data.toList).length ≤ l.length * (m + sep.size) := by
      intro l
      induction l with
      | nil => intro _; simp [Lib.join]
      | cons a t ih =>
        intro hx
        have h1 := ih (fun x hx2 => hx x (by simp [hx2]))
        have h2 := hx a (by simp)
        cases t with
        | nil => rw [Lib.join_one, List.length_singleton, Nat.one_mul]; omega
        | cons b t =>
          have e : Lib.join (a :: b :: t) sep.data.toList = a ++ sep.data.toList ++ Lib.join (b :: t) sep.data.toList := by simp [Lib.join]
          rw [e, List.length_append, List.length_append]
          have hs : sep.data.toList.length = sep.size := rfl
          rw [hs]
          rw [show (a :: b :: t).length = (b :: t).length + 1 from rfl, Nat.add_mul]
          omega
    have := hj (l.map (·.data.toList)) (fun x hx => by obtain ⟨y, hy, rfl⟩ := List.mem_map.1 hx; exact h y hy)
    rw [List.length_map] at this
    unfold joinB
    show (Lib.join (l.map (·.data.toList)) sep.data.toList).toArray.size ≤ _
    rw [List.size_toArray]
    exact this
end Go.Fi

