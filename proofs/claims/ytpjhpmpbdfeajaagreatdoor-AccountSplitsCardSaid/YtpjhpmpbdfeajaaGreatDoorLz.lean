/- A logic of abstract states for this claim (part Lz): lemmas alone. -/
set_option linter.unusedSimpArgs false
set_option linter.unusedVariables false

namespace Go.Fi

/-! ### digits to the base 10^9 -/
def valD : List Int → Int
  | [] => 0
  | d :: r => d + 1000000000 * valD r
def okD (l : List Int) : Prop := ∀ d ∈ l, 0 ≤ d ∧ d < 1000000000
def digs (n : Nat) : List Int := if h : n = 0 then [] else ((n % 1000000000 : Nat) : Int) :: digs (n / 1000000000)
termination_by n
decreasing_by exact Nat.div_lt_self (by omega) (by decide)
theorem digs_zero : digs 0 = [] := by rw [digs]; simp
theorem digs_pos {n : Nat} (h : 0 < n) : digs n = ((n % 1000000000 : Nat) : Int) :: digs (n / 1000000000) := by rw [digs, dif_neg (by omega)]
theorem okD_nil : okD [] := fun d h => by cases h
theorem okD_cons {d : Int} {r : List Int} (h : okD (d :: r)) : (0 ≤ d ∧ d < 1000000000) ∧ okD r := ⟨h d (by simp), fun x hx => h x (by simp [hx])⟩
theorem valD_nonneg : ∀ {l : List Int}, okD l → 0 ≤ valD l
  | [], _ => Int.le_refl 0
  | d :: r, h => by
    obtain ⟨h1, h2⟩ := okD_cons h
    have := valD_nonneg h2
    show 0 ≤ d + 1000000000 * valD r
    omega
theorem valD_digs (n : Nat) : valD (digs n) = (n : Int) := by
  induction n using Nat.strongRecOn with
  | _ n ih =>
    by_cases h : n = 0
    · subst h; rw [digs_zero]; rfl
    · rw [digs_pos (by omega)]
      show _ + 1000000000 * valD (digs (n / 1000000000)) = _
      rw [ih _ (Nat.div_lt_self (by omega) (by decide))]
      omega
theorem okD_digs (n : Nat) : okD (digs n) := by
  induction n using Nat.strongRecOn with
  | _ n ih =>
    by_cases h : n = 0
    · subst h; rw [digs_zero]; exact okD_nil
    · rw [digs_pos (by omega)]
      intro d hd
      rcases List.mem_cons.1 hd with rfl | hd
      · constructor <;> omega
      · exact ih _ (Nat.div_lt_self (by omega) (by decide)) d hd
/-- digits without noughts at the end -/
def trimD : List Int → List Int
  | [] => []
  | d :: r => if d = 0 ∧ trimD r = [] then [] else d :: trimD r
theorem digs_eq_nil {n : Nat} : digs n = [] ↔ n = 0 := by
  constructor
  · intro h
    by_cases h0 : n = 0
    · exact h0
    · rw [digs_pos (by omega)] at h; cases h
  · intro h; subst h; exact digs_zero
theorem trimD_digs : ∀ {l : List Int}, okD l → trimD l = digs (valD l).toNat
  | [], _ => by rw [show (valD []).toNat = 0 from rfl, digs_zero]; rfl
  | d :: r, h => by
    obtain ⟨h1, h2⟩ := okD_cons h
    have hr := valD_nonneg h2
    have ih := trimD_digs h2
    show (if d = 0 ∧ trimD r = [] then [] else d :: trimD r) = digs (d + 1000000000 * valD r).toNat
    rw [ih]
    by_cases hz : d = 0 ∧ digs (valD r).toNat = []
    · rw [if_pos hz]
      obtain ⟨z1, z2⟩ := hz
      rw [digs_eq_nil] at z2
      rw [show (d + 1000000000 * valD r).toNat = 0 by omega, digs_zero]
    · rw [if_neg hz]
      have hp : 0 < (d + 1000000000 * valD r).toNat := by
        rw [digs_eq_nil] at hz
        by_cases hd : d = 0
        · have : ¬ (valD r).toNat = 0 := fun e => hz ⟨hd, e⟩
          omega
        · omega
      rw [digs_pos hp]
      congr 1
      · omega
      · congr 1; omega
theorem valD_app (r : List Int) : ∀ l : List Int, valD (l ++ r) = valD l + (1000000000 : Int) ^ l.length * valD r
  | [] => by simp [valD]
  | d :: l => by
    show d + 1000000000 * valD (l ++ r) = d + 1000000000 * valD l + (1000000000 : Int) ^ (l.length + 1) * valD r
    rw [valD_app r l, Int.pow_succ, Int.mul_add, Int.mul_comm ((1000000000 : Int) ^ l.length) 1000000000, Int.mul_assoc, Int.add_assoc]
theorem valD_bd : ∀ {l : List Int}, okD l → valD l < (1000000000 : Int) ^ l.length
  | [], _ => by decide
  | d :: r, h => by
    obtain ⟨h1, h2⟩ := okD_cons h
    have := valD_bd h2
    show d + 1000000000 * valD r < (1000000000 : Int) ^ (r.length + 1)
    rw [Int.pow_succ]
    omega
/-- the digits of a number below 10^(9 k) are at most k -/
theorem digs_len {n : Nat} : ∀ {k : Nat}, n < 1000000000 ^ k → (digs n).length ≤ k
  | 0, h => by
    have e : n = 0 := by rw [Nat.pow_zero] at h; omega
    rw [e, digs_zero]; exact Nat.le_refl _
  | k + 1, h => by
    by_cases h0 : n = 0
    · subst h0; rw [digs_zero]; exact Nat.zero_le _
    · rw [digs_pos (by omega), List.length_cons]
      have := digs_len (n := n / 1000000000) (k := k) (by rw [Nat.pow_succ] at h; omega)
      omega
end Go.Fi

namespace Go.Fi

/-! ### sums, differences and products of digits -/
def dg (l : List Int) (i : Nat) : Int := l.getD i 0
abbrev PB (k : Nat) : Int := (1000000000 : Int) ^ k
theorem PB_succ (k : Nat) : PB (k + 1) = 1000000000 * PB k := by unfold PB; rw [Int.pow_succ, Int.mul_comm]
theorem PB_pos (k : Nat) : 0 < PB k := Int.pow_pos (by decide)
theorem PB_add (i k : Nat) : PB (i + k) = PB i * PB k := Int.pow_add _ _ _
theorem dg_bd {l : List Int} (h : okD l) (i : Nat) : 0 ≤ dg l i ∧ dg l i < 1000000000 := by
  unfold dg
  rw [List.getD_eq_getElem?_getD]
  cases hq : l[i]? with
  | none => simp
  | some x => exact h x (List.mem_of_getElem? hq)
theorem dg_out {l : List Int} {i : Nat} (h : l.length ≤ i) : dg l i = 0 := by
  unfold dg; rw [List.getD_eq_getElem?_getD, List.getElem?_eq_none h]; rfl
theorem dg_succ (d : Int) (r : List Int) (i : Nat) : dg (d :: r) (i + 1) = dg r i := rfl
theorem valD_take : ∀ (l : List Int) (k : Nat), valD (l.take (k + 1)) = valD (l.take k) + dg l k * PB k
  | [], k => by simp [valD, dg]
  | d :: r, 0 => by simp [valD, dg, PB]
  | d :: r, k + 1 => by
    rw [List.take_succ_cons, List.take_succ_cons]
    show d + 1000000000 * valD (r.take (k + 1)) = d + 1000000000 * valD (r.take k) + dg (d :: r) (k + 1) * PB (k + 1)
    rw [valD_take r k, dg_succ, PB_succ, Int.mul_add, ← Int.add_assoc]
    congr 1
    rw [Int.mul_left_comm]
theorem valD_set : ∀ (l : List Int) (k : Nat) (v : Int), k < l.length → valD (l.set k v) = valD l + (v - dg l k) * PB k
  | [], k, v, h => by simp at h
  | d :: r, 0, v, _ => by
    show v + 1000000000 * valD r = d + 1000000000 * valD r + (v - d) * PB 0
    unfold PB; rw [Int.pow_zero]; omega
  | d :: r, k + 1, v, h => by
    show d + 1000000000 * valD (r.set k v) = d + 1000000000 * valD r + (v - dg r k) * PB (k + 1)
    rw [valD_set r k v (by simpa using h), PB_succ, Int.mul_add, ← Int.add_assoc]
    congr 1
    rw [Int.mul_left_comm]
theorem okD_set {l : List Int} (h : okD l) (k : Nat) {v : Int} (h0 : 0 ≤ v) (h1 : v < 1000000000) : okD (l.set k v) := fun d hd => by
  rcases List.mem_or_eq_of_mem_set hd with hd | rfl
  · exact h d hd
  · exact ⟨h0, h1⟩
theorem okD_snoc {l : List Int} (h : okD l) {v : Int} (h0 : 0 ≤ v) (h1 : v < 1000000000) : okD (l ++ [v]) := fun d hd => by
  rcases List.mem_append.1 hd with hd | hd
  · exact h d hd
  · rw [List.mem_singleton] at hd; subst hd; exact ⟨h0, h1⟩
theorem dg_set {l : List Int} {k : Nat} {v : Int} (i : Nat) : dg (l.set k v) i = if k = i ∧ k < l.length then v else dg l i := by
  unfold dg
  simp only [List.getD_eq_getElem?_getD, List.getElem?_set]
  by_cases h : k = i
  · subst h
    by_cases h2 : k < l.length
    · simp [h2]
    · simp [h2]
  · simp [h]
/-- the sum, digit by digit: the digits so far, and what is carried -/
def addK (a b : List Int) : Nat → List Int × Int
  | 0 => ([], 0)
  | k + 1 => ((addK a b k).1 ++ [(dg a k + dg b k + (addK a b k).2) % 1000000000], (dg a k + dg b k + (addK a b k).2) / 1000000000)
theorem addK_inv {a b : List Int} (ha : okD a) (hb : okD b) : ∀ k, (addK a b k).1.length = k ∧ okD (addK a b k).1 ∧ (0 ≤ (addK a b k).2 ∧ (addK a b k).2 ≤ 1) ∧ valD (addK a b k).1 + (addK a b k).2 * PB k = valD (a.take k) + valD (b.take k)
  | 0 => ⟨rfl, okD_nil, ⟨Int.le_refl 0, (by decide : (0 : Int) ≤ 1)⟩, by simp [addK, valD]⟩
  | k + 1 => by
    obtain ⟨h1, h2, h3, h4⟩ := addK_inv ha hb k
    have b1 := dg_bd ha k
    have b2 := dg_bd hb k
    simp only [addK]
    generalize (addK a b k).2 = c at *
    generalize (addK a b k).1 = o at *
    rw [valD_take, valD_take, valD_app, h1, PB_succ]
    generalize hs : dg a k + dg b k + c = s
    refine ⟨by simp [h1], okD_snoc h2 (by omega) (by omega), by omega, ?_⟩
    have e : valD [s % 1000000000] = s % 1000000000 := by simp [valD]
    rw [e]
    have e2 : PB k * (s % 1000000000) + s / 1000000000 * (1000000000 * PB k) = s * PB k := by
      have := Int.emod_add_mul_ediv s 1000000000
      rw [show s / 1000000000 * (1000000000 * PB k) = (1000000000 * (s / 1000000000)) * PB k by rw [Int.mul_left_comm, Int.mul_assoc], Int.mul_comm (PB k), ← Int.add_mul, this]
    rw [Int.add_assoc, e2, ← hs, Int.add_mul, Int.add_mul]
    omega
/-- the difference, digit by digit, and what is borrowed -/
def subK (a b : List Int) : Nat → List Int × Int
  | 0 => ([], 0)
  | k + 1 => if dg a k - dg b k - (subK a b k).2 < 0 then ((subK a b k).1 ++ [dg a k - dg b k - (subK a b k).2 + 1000000000], 1) else ((subK a b k).1 ++ [dg a k - dg b k - (subK a b k).2], 0)
theorem subK_inv {a b : List Int} (ha : okD a) (hb : okD b) : ∀ k, (subK a b k).1.length = k ∧ okD (subK a b k).1 ∧ (0 ≤ (subK a b k).2 ∧ (subK a b k).2 ≤ 1) ∧ valD (subK a b k).1 - (subK a b k).2 * PB k = valD (a.take k) - valD (b.take k)
  | 0 => ⟨rfl, okD_nil, ⟨Int.le_refl 0, (by decide : (0 : Int) ≤ 1)⟩, by simp [subK, valD]⟩
  | k + 1 => by
    obtain ⟨h1, h2, h3, h4⟩ := subK_inv ha hb k
    have b1 := dg_bd ha k
    have b2 := dg_bd hb k
    simp only [subK]
    generalize (subK a b k).2 = c at *
    generalize (subK a b k).1 = o at *
    rw [valD_take, valD_take, PB_succ]
    have e3 : ∀ v : Int, valD (o ++ [v]) = valD o + v * PB k := fun v => by rw [valD_app, h1]; simp [valD, Int.mul_comm]
    have hx : (dg a k - dg b k - c) * PB k = dg a k * PB k - dg b k * PB k - c * PB k := by rw [Int.sub_mul, Int.sub_mul]
    split
    · refine ⟨by simp [h1], okD_snoc h2 (by omega) (by omega), ⟨(by decide : (0 : Int) ≤ 1), (by decide : (1 : Int) ≤ 1)⟩, ?_⟩
      dsimp only
      rw [e3, Int.add_mul, hx]
      omega
    · refine ⟨by simp [h1], okD_snoc h2 (by omega) (by omega), ⟨(by decide : (0 : Int) ≤ 0), (by decide : (0 : Int) ≤ 1)⟩, ?_⟩
      dsimp only
      rw [e3, hx]
      omega
theorem subK_end {a b : List Int} (ha : okD a) (hb : okD b) (hle : valD b ≤ valD a) (hl : b.length ≤ a.length) : valD (subK a b a.length).1 = valD a - valD b := by
  obtain ⟨h1, h2, h3, h4⟩ := subK_inv ha hb a.length
  have h5 := valD_bd h2
  rw [h1] at h5
  rw [List.take_length, List.take_of_length_le hl] at h4
  have hp := PB_pos a.length
  by_cases hc : (subK a b a.length).2 = 0
  · rw [hc] at h4; omega
  · have : (subK a b a.length).2 = 1 := by omega
    rw [this] at h4
    change valD (subK a b a.length).1 < PB a.length at h5
    omega
/-- one digit's row of a product -/
def rowK (o : List Int) (d : Int) (b : List Int) (i : Nat) : Nat → List Int × Int
  | 0 => (o, 0)
  | k + 1 => ((rowK o d b i k).1.set (i + k) ((dg (rowK o d b i k).1 (i + k) + d * dg b k + (rowK o d b i k).2) % 1000000000), (dg (rowK o d b i k).1 (i + k) + d * dg b k + (rowK o d b i k).2) / 1000000000)
theorem rowK_inv {o b : List Int} {d : Int} {i : Nat} (ho : okD o) (hb : okD b) (hd : 0 ≤ d ∧ d < 1000000000) : ∀ k, i + k ≤ o.length → (rowK o d b i k).1.length = o.length ∧ okD (rowK o d b i k).1 ∧ (0 ≤ (rowK o d b i k).2 ∧ (rowK o d b i k).2 < 1000000000) ∧
    (∀ j, i + k ≤ j → dg (rowK o d b i k).1 j = dg o j) ∧ valD (rowK o d b i k).1 + (rowK o d b i k).2 * PB (i + k) = valD o + d * valD (b.take k) * PB i
  | 0, _ => ⟨rfl, ho, ⟨Int.le_refl 0, (by decide : (0 : Int) < 1000000000)⟩, fun _ _ => rfl, by simp [rowK, valD]⟩
  | k + 1, hk => by
    obtain ⟨h1, h2, h3, h4, h5⟩ := rowK_inv (i := i) ho hb hd k (by omega)
    have b1 := dg_bd h2 (i + k)
    have b2 := dg_bd hb k
    simp only [rowK]
    generalize (rowK o d b i k).2 = c at *
    generalize (rowK o d b i k).1 = q at *
    have hm0 : 0 ≤ d * dg b k := Int.mul_nonneg hd.1 b2.1
    have hm1 : d * dg b k ≤ 999999999 * 999999999 := by
      have h6 : d * dg b k ≤ 999999999 * dg b k := Int.mul_le_mul_of_nonneg_right (by omega) b2.1
      have h7 : 999999999 * dg b k ≤ 999999999 * 999999999 := by omega
      omega
    generalize hs : dg q (i + k) + d * dg b k + c = s
    refine ⟨by simp [h1], okD_set h2 _ (by omega) (by omega), by omega, fun j hj => ?_, ?_⟩
    · rw [dg_set, if_neg (by omega)]; exact h4 j (by omega)
    · rw [valD_set _ _ _ (by omega), valD_take, show i + (k + 1) = i + k + 1 from rfl, PB_succ, Int.mul_add, Int.add_mul]
      have e2 : s % 1000000000 * PB (i + k) + s / 1000000000 * (1000000000 * PB (i + k)) = s * PB (i + k) := by
        have := Int.emod_add_mul_ediv s 1000000000
        rw [show s / 1000000000 * (1000000000 * PB (i + k)) = (1000000000 * (s / 1000000000)) * PB (i + k) by rw [Int.mul_left_comm, Int.mul_assoc], ← Int.add_mul, this]
      have e3 : (s % 1000000000 - dg q (i + k)) * PB (i + k) = s % 1000000000 * PB (i + k) - dg q (i + k) * PB (i + k) := Int.sub_mul _ _ _
      have e4 : s * PB (i + k) = dg q (i + k) * PB (i + k) + d * dg b k * PB (i + k) + c * PB (i + k) := by rw [← hs, Int.add_mul, Int.add_mul]
      have e5 : d * (dg b k * PB k) * PB i = d * dg b k * PB (i + k) := by rw [PB_add, ← Int.mul_assoc, Int.mul_assoc (d * dg b k), Int.mul_comm (PB k)]
      rw [e3, e5]
      omega
/-- a product, row by row -/
def mulK (a b : List Int) : Nat → List Int
  | 0 => List.replicate (a.length + b.length + 1) 0
  | i + 1 => (rowK (mulK a b i) (dg a i) b i b.length).1.set (i + b.length) (dg (rowK (mulK a b i) (dg a i) b i b.length).1 (i + b.length) + (rowK (mulK a b i) (dg a i) b i b.length).2)
theorem okD_zeros (n : Nat) : okD (List.replicate n 0) := fun d h => by obtain ⟨_, rfl⟩ := List.mem_replicate.1 h; decide
theorem valD_zeros : ∀ n : Nat, valD (List.replicate n 0) = 0
  | 0 => rfl
  | n + 1 => by show 0 + 1000000000 * valD (List.replicate n 0) = 0; rw [valD_zeros n]; rfl
theorem dg_zeros (n j : Nat) : dg (List.replicate n 0) j = 0 := by
  unfold dg; rw [List.getD_eq_getElem?_getD, List.getElem?_replicate]; split <;> rfl
theorem mulK_inv {a b : List Int} (ha : okD a) (hb : okD b) : ∀ i, i ≤ a.length → (mulK a b i).length = a.length + b.length + 1 ∧ okD (mulK a b i) ∧ (∀ j, i + b.length ≤ j → dg (mulK a b i) j = 0) ∧ valD (mulK a b i) = valD (a.take i) * valD b
  | 0, _ => ⟨by simp [mulK], okD_zeros _, fun j _ => dg_zeros _ j, by simp [mulK, valD_zeros, valD]⟩
  | i + 1, hi => by
    obtain ⟨h1, h2, h3, h4⟩ := mulK_inv ha hb i (by omega)
    obtain ⟨r1, r2, r3, r4, r5⟩ := rowK_inv (i := i) h2 hb (dg_bd ha i) b.length (by omega)
    rw [List.take_length] at r5
    have hz := r4 (i + b.length) (Nat.le_refl _)
    rw [h3 _ (Nat.le_refl _)] at hz
    simp only [mulK]
    generalize (rowK (mulK a b i) (dg a i) b i b.length).2 = c at *
    generalize (rowK (mulK a b i) (dg a i) b i b.length).1 = q at *
    refine ⟨by rw [List.length_set]; omega, okD_set r2 _ (by omega) (by omega), fun j hj => ?_, ?_⟩
    · rw [dg_set, if_neg (by omega), r4 j (by omega)]; exact h3 j (by omega)
    · rw [valD_set _ _ _ (by omega), hz, valD_take, Int.add_mul, ← h4]
      have : dg a i * PB i * valD b = dg a i * valD b * PB i := by rw [Int.mul_assoc, Int.mul_comm (PB i), ← Int.mul_assoc]
      rw [this, ← r5]
      have : (0 + c - 0) * PB (i + b.length) = c * PB (i + b.length) := by congr 1; omega
      omega
theorem mulK_end {a b : List Int} (ha : okD a) (hb : okD b) : okD (mulK a b a.length) ∧ valD (mulK a b a.length) = valD a * valD b := by
  obtain ⟨_, h2, _, h4⟩ := mulK_inv ha hb a.length (Nat.le_refl _)
  rw [List.take_length] at h4
  exact ⟨h2, h4⟩
end Go.Fi

