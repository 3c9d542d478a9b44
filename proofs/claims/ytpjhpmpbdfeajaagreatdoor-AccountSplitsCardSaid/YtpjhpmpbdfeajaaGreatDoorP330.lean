/- Contracts of functions for this claim: lemmas alone. -/
import Derived.Test.YtpjhpmpbdfeajaaGreatDoorP329
set_option linter.unusedSimpArgs false
set_option linter.unusedVariables false
namespace Go.Proofs.YtpjhpmpbdfeajaaGreatDoor
open Go Go.Fi
set_option maxRecDepth 20000

/-! ### no cent is lost: a share without a rest gets no cent more -/
theorem sumI_cons (x : Int) (l : List Int) : sumI (x :: l) = x + sumI l := rfl
theorem sumI_perm {l l' : List Int} (h : l.Perm l') : sumI l = sumI l' := by
  induction h with
  | nil => rfl
  | cons x _ ih => rw [sumI_cons, sumI_cons, ih]
  | swap x y l => rw [sumI_cons, sumI_cons, sumI_cons, sumI_cons]; omega
  | trans _ _ a b => exact a.trans b
theorem order_sum (rs : List Int) (N : Nat) (hl : rs.length = N + 1) : sumI ((orderN rs N).map (nth rs)) = sumI rs := by
  have h1 := (sorted_facts rs N).1
  have h2 : ((orderN rs N).map (nth rs)).Perm ((List.finRange (N + 1)).map (fun i => nth rs i.val)) := by
    unfold orderN
    rw [List.map_map]
    exact h1.map _
  rw [sumI_perm h2]
  congr 1
  apply List.ext_getElem
  · simp [hl]
  · intro i h3 h4
    simp [nth, h4]
theorem sum_le (S : Int) (hS : 0 < S) : ∀ (L : List Int) (p : Nat), (∀ k, k < L.length → 0 ≤ nth L k ∧ nth L k ≤ S - 1) → (∀ k, p ≤ k → k < L.length → nth L k = 0) → sumI L ≤ (p : Int) * (S - 1)
  | [], p, _, _ => by
    show (0 : Int) ≤ _
    exact Int.mul_nonneg (by omega) (by omega)
  | x :: r, 0, h1, h2 => by
    have hx := h2 0 (Nat.le_refl _) (by simp)
    have ih := sum_le S hS r 0 (fun k hk => h1 (k + 1) (by simpa using hk)) (fun k _ hk => h2 (k + 1) (by omega) (by simpa using hk))
    rw [sumI_cons]
    change x = 0 at hx
    omega
  | x :: r, p + 1, h1, h2 => by
    have hx := (h1 0 (by simp)).2
    have ih := sum_le S hS r p (fun k hk => h1 (k + 1) (by simpa using hk)) (fun k hp hk => h2 (k + 1) (by omega) (by simpa using hk))
    rw [sumI_cons]
    change x ≤ S - 1 at hx
    have : ((p + 1 : Nat) : Int) * (S - 1) = (p : Int) * (S - 1) + (S - 1) := by rw [Int.natCast_add, Int.add_mul]; simp
    omega
end Go.Proofs.YtpjhpmpbdfeajaaGreatDoor
namespace Go.Proofs.YtpjhpmpbdfeajaaGreatDoor
open Go Go.Fi
set_option maxRecDepth 20000

theorem sum_rs (a S : Nat) : ∀ ns : List Nat, sumI (rsK a S ns) + (S : Int) * ((givenK a S ns : Nat) : Int) = (a : Int) * ((sumN ns : Nat) : Int)
  | [] => by simp [rsK, givenK, sumN]
  | s :: r => by
    have ih := sum_rs a S r
    show ((a * s % S : Nat) : Int) + sumI (rsK a S r) + (S : Int) * ((a * s / S + givenK a S r : Nat) : Int) = (a : Int) * ((s + sumN r : Nat) : Int)
    have h := congrArg (fun n : Nat => (n : Int)) (Nat.div_add_mod (a * s) S)
    simp only [Int.natCast_add, Int.natCast_mul] at h ⊢
    rw [Int.mul_add, Int.mul_add]
    omega
theorem extra_rest (a : Nat) (ns : List Nat) (h : 0 < sumN ns) (k : Nat) (hk : k < ns.length) (hm : k ∈ (orderN (rsK a (sumN ns) ns) (ns.length - 1)).take (a - givenK a (sumN ns) ns)) : 0 < a * nth ns k % sumN ns := by
  obtain ⟨g1, g2⟩ := left_bd a ns h
  have hsum := sum_rs a (sumN ns) ns
  have hrl : (rsK a (sumN ns) ns).length = ns.length := by simp [rsK]
  have hnn : ∀ i, i < ns.length → nth (rsK a (sumN ns) ns) i = ((a * nth ns i % sumN ns : Nat) : Int) := fun i hi => nth_rs _ _ _ _ hi
  have hlt : ∀ i, a * nth ns i % sumN ns < sumN ns := fun i => Nat.mod_lt _ h
  have hos := order_sum (rsK a (sumN ns) ns) (ns.length - 1) (by omega)
  obtain ⟨p, hp, he⟩ := (mem_take_order (rsK a (sumN ns) ns) (ns.length - 1) _ k (by omega)).1 hm
  rcases Nat.eq_zero_or_pos (a * nth ns k % sumN ns) with h0 | h0
  · exfalso
    have hkr : nth (rsK a (sumN ns) ns) k = 0 := by rw [hnn k hk, h0]; rfl
    have hol : (orderN (rsK a (sumN ns) ns) (ns.length - 1)).length = ns.length := by
      have := (sorted_facts (rsK a (sumN ns) ns) (ns.length - 1)).1.length_eq
      simp [orderN] at this ⊢
      omega
    have hin : ∀ j, j < ns.length → nth (orderN (rsK a (sumN ns) ns) (ns.length - 1)) j < ns.length := fun j hj => by
      have := order_in (rsK a (sumN ns) ns) (ns.length - 1) ns.length (by omega) (nth (orderN (rsK a (sumN ns) ns) (ns.length - 1)) j) (by
        rw [List.take_of_length_le (by omega)]
        simp only [nth, List.getD_eq_getElem?_getD, List.getElem?_eq_getElem (show j < (orderN (rsK a (sumN ns) ns) (ns.length - 1)).length by omega), Option.getD_some]
        exact List.getElem_mem _)
      omega
    have hL : ∀ j, j < ns.length → nth ((orderN (rsK a (sumN ns) ns) (ns.length - 1)).map (nth (rsK a (sumN ns) ns))) j = nth (rsK a (sumN ns) ns) (nth (orderN (rsK a (sumN ns) ns) (ns.length - 1)) j) := fun j hj => by
      simp [nth, List.getD_eq_getElem?_getD, hol, hj]
    have hle := sum_le (sumN ns : Int) (by omega) ((orderN (rsK a (sumN ns) ns) (ns.length - 1)).map (nth (rsK a (sumN ns) ns))) p (fun j hj => by
        rw [List.length_map, hol] at hj
        rw [hL j hj, hnn _ (hin j hj)]
        have := hlt (nth (orderN (rsK a (sumN ns) ns) (ns.length - 1)) j)
        omega) (fun j hpj hj => by
        rw [List.length_map, hol] at hj
        rw [hL j hj]
        rcases Nat.lt_or_eq_of_le hpj with hx | hx
        · have h3 := order_le (rsK a (sumN ns) ns) (ns.length - 1) p j hx (by omega)
          rw [he, hkr] at h3
          have h4 := hnn _ (hin j hj)
          rcases h3 with h3 | h3
          · rw [h4] at h3; omega
          · exact h3.1
        · rw [← hx, he]; exact hkr)
    rw [hos] at hle
    have h5 : (a : Int) * ((sumN ns : Nat) : Int) - ((sumN ns : Nat) : Int) * ((givenK a (sumN ns) ns : Nat) : Int) = ((a - givenK a (sumN ns) ns : Nat) : Int) * ((sumN ns : Nat) : Int) := by
      rw [Int.natCast_sub g1, Int.sub_mul, Int.mul_comm ((sumN ns : Nat) : Int)]
    have h6 : (p : Int) * (((sumN ns : Nat) : Int) - 1) ≤ (p : Int) * ((sumN ns : Nat) : Int) := Int.mul_le_mul_of_nonneg_left (by omega) (by omega)
    have h7 : ((p : Int) + 1) * ((sumN ns : Nat) : Int) ≤ ((a - givenK a (sumN ns) ns : Nat) : Int) * ((sumN ns : Nat) : Int) := Int.mul_le_mul_of_nonneg_right (by omega) (by omega)
    rw [Int.add_mul, Int.one_mul] at h7
    omega
  · exact h0
end Go.Proofs.YtpjhpmpbdfeajaaGreatDoor
namespace Go.Proofs.YtpjhpmpbdfeajaaGreatDoor
open Go Go.Fi
set_option maxRecDepth 20000

theorem away_nat (a : Nat) (ns : List Nat) (h : 0 < sumN ns) (k : Nat) (hk : k < ns.length) :
    -((sumN ns : Nat) : Int) < nth (splitS a ns) k * ((sumN ns : Nat) : Int) - (a : Int) * ((nth ns k : Nat) : Int) ∧ nth (splitS a ns) k * ((sumN ns : Nat) : Int) - (a : Int) * ((nth ns k : Nat) : Int) < ((sumN ns : Nat) : Int) := by
  rw [splitS_at a ns h k hk]
  have hd := congrArg (fun n : Nat => (n : Int)) (Nat.div_add_mod (a * nth ns k) (sumN ns))
  simp only [Int.natCast_add, Int.natCast_mul] at hd
  have hr := Nat.mod_lt (a * nth ns k) h
  have hc := Int.mul_comm ((sumN ns : Nat) : Int) ((a * nth ns k / sumN ns : Nat) : Int)
  by_cases hm : k ∈ (orderN (rsK a (sumN ns) ns) (ns.length - 1)).take (a - givenK a (sumN ns) ns)
  · have h1 := extra_rest a ns h k hk hm
    rw [if_pos hm, Int.add_mul, Int.one_mul, ← hc]
    omega
  · rw [if_neg hm, Int.add_zero, ← hc]
    omega
theorem sumN_nats : ∀ l : List Int, (∀ k, k < l.length → 0 ≤ nth l k) → ((sumN (natsOf l) : Nat) : Int) = sumI l
  | [], _ => rfl
  | x :: r, h => by
    have h0 : 0 ≤ x := h 0 (by simp)
    have ih := sumN_nats r (fun k hk => h (k + 1) (by simpa using hk))
    rw [sumI_cons, ← ih]
    show ((x.toNat + sumN (natsOf r) : Nat) : Int) = _
    omega
theorem sumI_neg : ∀ l : List Int, sumI (l.map (fun x => -x)) = -(sumI l)
  | [] => rfl
  | x :: r => by rw [List.map_cons, sumI_cons, sumI_cons, sumI_neg r]; omega
/-- what the law asks of the parts -/
theorem parts_law {a : Int} {l : List Int} (h : splitE a l = 0) : sumI (partsA a l) = a ∧ ∀ k, k < l.length → -(sumI l) < nth (partsA a l) k * sumI l - a * nth l k ∧ nth (partsA a l) k * sumI l - a * nth l k < sumI l := by
  obtain ⟨⟨ha0, ha1⟩, h2, h3, h4⟩ := split_facts h
  have hs0 := fun k hk => ((share_facts h4).1 k hk).1
  have hS := sumN_nats l hs0
  have hlen : (natsOf l).length = l.length := by simp [natsOf]
  have hpos := (splitIn_of h (b := 0) (by omega)).pos
  unfold partsA
  by_cases hz : 0 ≤ a
  · rw [if_pos hz]
    refine ⟨by rw [splitS_sum _ _ hpos]; omega, fun k hk => ?_⟩
    have := away_nat a.toNat (natsOf l) hpos k (by omega)
    rw [hS, nth_nats l k hk, Int.toNat_of_nonneg hz, Int.toNat_of_nonneg (hs0 k hk)] at this
    exact this
  · rw [if_neg hz]
    have hsl := splitS_len (-a).toNat (natsOf l)
    rw [← hsl, negT_all]
    refine ⟨by rw [sumI_neg, splitS_sum _ _ hpos]; omega, fun k hk => ?_⟩
    have := away_nat (-a).toNat (natsOf l) hpos k (by omega)
    rw [hS, nth_nats l k hk, Int.toNat_of_nonneg (show 0 ≤ -a by omega), Int.toNat_of_nonneg (hs0 k hk)] at this
    have hk2 : k < (splitS (-a).toNat (natsOf l)).length := by omega
    have e : nth ((splitS (-a).toNat (natsOf l)).map (fun x => -x)) k = -(nth (splitS (-a).toNat (natsOf l)) k) := by
      simp only [nth, List.getD_eq_getElem?_getD, List.getElem?_map, List.getElem?_eq_getElem hk2, Option.map_some, Option.getD_some]
    rw [e, Int.neg_mul]
    rw [Int.neg_mul] at this
    omega
end Go.Proofs.YtpjhpmpbdfeajaaGreatDoor
namespace Go.Proofs.YtpjhpmpbdfeajaaGreatDoor
open Go Go.Fi
set_option maxRecDepth 20000

/-! ### bounds for the law's sums -/
theorem sumI_bd (B : Int) (l : List Int) (h : ∀ k, k < l.length → -B ≤ nth l k ∧ nth l k ≤ B) : ∀ k, k ≤ l.length → -(B * (k : Int)) ≤ sumI (l.take k) ∧ sumI (l.take k) ≤ B * (k : Int)
  | 0, _ => by simp [sumI]
  | k + 1, hk => by
    have ih := sumI_bd B l h k (by omega)
    have hx := h k (by omega)
    rw [sumI_succ l k (by omega)]
    have : B * ((k + 1 : Nat) : Int) = B * (k : Int) + B := by rw [Int.natCast_add, Int.mul_add]; simp
    omega
theorem parts_bd {a : Int} {l : List Int} (h : splitE a l = 0) : ∀ k, k < (partsA a l).length → -1000000000000000 ≤ nth (partsA a l) k ∧ nth (partsA a l) k ≤ 1000000000000000 := by
  obtain ⟨⟨ha0, ha1⟩, h2, h3, h4⟩ := split_facts h
  have hlen : (natsOf l).length = l.length := by simp [natsOf]
  have hpos := (splitIn_of h (b := 0) (by omega)).pos
  intro k hk
  rw [partsA_len] at hk
  unfold partsA
  by_cases hz : 0 ≤ a
  · rw [if_pos hz]
    have h5 := splitS_pos a.toNat (natsOf l) hpos k (by omega)
    have h6 := splitS_le a.toNat (natsOf l) hpos k (by omega)
    omega
  · rw [if_neg hz]
    have hsl := splitS_len (-a).toNat (natsOf l)
    have h5 := splitS_pos (-a).toNat (natsOf l) hpos k (by omega)
    have h6 := splitS_le (-a).toNat (natsOf l) hpos k (by omega)
    rw [← hsl, negT_all]
    have hk2 : k < (splitS (-a).toNat (natsOf l)).length := by omega
    have e : nth ((splitS (-a).toNat (natsOf l)).map (fun x => -x)) k = -(nth (splitS (-a).toNat (natsOf l)) k) := by
      simp only [nth, List.getD_eq_getElem?_getD, List.getElem?_map, List.getElem?_eq_getElem hk2, Option.map_some, Option.getD_some]
    rw [e]
    omega
end Go.Proofs.YtpjhpmpbdfeajaaGreatDoor

