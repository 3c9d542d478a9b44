/- Contracts of functions for this claim: lemmas alone. -/
import Derived.Test.YtfpamehamllndaaGreatDoorP101
import Derived.Lib.AtoiTie
import Derived.Lib.AtoiAllCases
import Derived.Test.YtfpamehamllndaaGreatDoorLw
set_option linter.unusedSimpArgs false
set_option linter.unusedVariables false
namespace Go.Proofs.YtfpamehamllndaaGreatDoor
open Go Go.Fi
set_option maxRecDepth 20000

/-! ### numerals -/
theorem digitVal_dg {d : Nat} (h : d < 10) : Lib.digitVal (UInt8.ofNat (48 + d)) = some d := by
  unfold Lib.digitVal
  have e : (UInt8.ofNat (48 + d)).toNat = 48 + d := by simp; omega
  rw [e, if_pos (by omega)]; congr 1; omega
theorem decFrom_snoc : ∀ (l : List UInt8) (acc n : Nat) (b : UInt8) (d : Nat), Lib.decFrom acc l = some n → Lib.digitVal b = some d → Lib.decFrom acc (l ++ [b]) = some (n * 10 + d)
  | [], acc, n, b, d, h, hb => by
    simp only [Lib.decFrom, Option.some.injEq] at h; subst h
    simp [Lib.decFrom, hb]
  | a :: l, acc, n, b, d, h, hb => by
    simp only [List.cons_append, Lib.decFrom] at h ⊢
    split at h
    · exact decFrom_snoc l _ n b d h hb
    · cases h
theorem decFrom_snoc_inv : ∀ (l : List UInt8) (acc m : Nat) (b : UInt8), Lib.decFrom acc (l ++ [b]) = some m → ∃ n d, Lib.decFrom acc l = some n ∧ Lib.digitVal b = some d ∧ m = n * 10 + d
  | [], acc, m, b, h => by
    simp only [List.nil_append, Lib.decFrom] at h
    split at h
    · rename_i d hd; injection h with h; exact ⟨acc, d, rfl, hd, h.symm⟩
    · cases h
  | a :: l, acc, m, b, h => by
    simp only [List.cons_append, Lib.decFrom] at h ⊢
    split at h
    · rename_i d hd
      exact decFrom_snoc_inv l _ m b h
    · cases h
theorem digitVal_inv {b : UInt8} {d : Nat} (h : Lib.digitVal b = some d) : d < 10 ∧ b = UInt8.ofNat (48 + d) ∧ b.toNat = 48 + d := by
  unfold Lib.digitVal at h
  split at h
  · rename_i hb
    injection h with h
    have e : b.toNat = 48 + d := by omega
    exact ⟨by omega, by rw [← e]; simp, e⟩
  · cases h
theorem decDigits_ne (u : Nat) : Lib.decDigits u ≠ [] := by
  unfold Lib.decDigits
  split <;> simp
theorem decDigits_val (u : Nat) : Lib.decFrom 0 (Lib.decDigits u) = some u := by
  induction u using Nat.strongRecOn with
  | _ u ih =>
    unfold Lib.decDigits
    split
    · rename_i h
      simp only [Lib.decFrom, digitVal_dg h]
      simp
    · rename_i h
      rw [decFrom_snoc _ 0 (u / 10) _ (u % 10) (ih _ (by omega)) (digitVal_dg (by omega))]
      congr 1; omega
theorem decDigits_head (u : Nat) (h : 0 < u) : (Lib.decDigits u).head? ≠ some 48 := by
  induction u using Nat.strongRecOn with
  | _ u ih =>
    unfold Lib.decDigits
    split
    · rename_i hu
      simp only [List.head?_cons, ne_eq, Option.some.injEq]
      intro e
      have := congrArg UInt8.toNat e
      simp at this; omega
    · rename_i hu
      have h1 := ih (u / 10) (by omega) (by omega)
      have h2 := decDigits_ne (u / 10)
      cases hd : Lib.decDigits (u / 10) with
      | nil => exact absurd hd h2
      | cons a r => rw [hd] at h1; simpa using h1
theorem decDigits_zero : Lib.decDigits 0 = [48] := by unfold Lib.decDigits; rfl
/-- a row of digits without a nought ahead is its number's numeral -/
theorem decDigits_of : ∀ (k : Nat) (l : List UInt8) (m : Nat), l.length = k + 1 → (l.head? ≠ some 48) → Lib.decFrom 0 l = some m → 0 < m ∧ Lib.decDigits m = l
  | 0, l, m, hl, hh, hm => by
    match l, hl with
    | [b], _ =>
      obtain ⟨n, d, h1, h2, h3⟩ := decFrom_snoc_inv [] 0 m b hm
      simp only [Lib.decFrom, Option.some.injEq] at h1
      subst h1
      obtain ⟨h4, h5, h6⟩ := digitVal_inv h2
      have : d ≠ 0 := by
        intro e; subst e
        exact hh (by rw [h5]; rfl)
      have e : m = d := by omega
      subst e
      refine ⟨by omega, ?_⟩
      unfold Lib.decDigits
      rw [dif_pos h4, h5]
  | k + 1, l, m, hl, hh, hm => by
    obtain ⟨i, b, rfl⟩ : ∃ i b, l = i ++ [b] := ⟨l.dropLast, l.getLast (by intro e; subst e; simp at hl), (List.dropLast_concat_getLast _).symm⟩
    obtain ⟨n, d, h1, h2, h3⟩ := decFrom_snoc_inv i 0 m b hm
    obtain ⟨h4, h5, h6⟩ := digitVal_inv h2
    have hi : i.length = k + 1 := by simpa using hl
    obtain ⟨p1, p2⟩ := decDigits_of k i n hi (by
      cases i with
      | nil => simp at hi
      | cons a r => simpa using hh) h1
    refine ⟨by omega, ?_⟩
    unfold Lib.decDigits
    rw [dif_neg (by omega), show m / 10 = n by omega, p2, show m % 10 = d by omega, h5]
/-! ### numbers of texts -/
def ng (l : List UInt8) : Bool := decide (l.head? = some 45)
def ds (l : List UInt8) : List UInt8 := if ng l = true then l.tail else l
def sgn (b : Bool) (m : Nat) : Int := if b = true then -(m : Int) else m
/-- what the reference reads -/
def refNum (l : List UInt8) : Option Int :=
  if ds l = [] ∨ 9 < (ds l).length ∨ ((ds l).head? = some 48 ∧ 1 < l.length) then none else (Lib.decFrom 0 (ds l)).map (sgn (ng l))
/-- what the program reads -/
def prgNum (l : List UInt8) : Option Int :=
  match Lib.atoiAll l with
  | .ok v => if Lib.itoa v = l ∧ (Lib.trimPrefix l [45]).length ≤ 9 then some v else none
  | _ => none
theorem trim_ds (l : List UInt8) : Lib.trimPrefix l [45] = ds l := by
  unfold ds ng
  cases l with
  | nil => rfl
  | cons a r =>
    by_cases h : a = 45
    · subst h
      rfl
    · simp only [List.head?_cons, Option.some.injEq, h, decide_false, Bool.false_eq_true, if_false]
      unfold Lib.trimPrefix
      rw [if_neg]
      intro e
      simp [Lib.hasPrefix] at e
      first | exact h e.symm | exact h e
theorem itoa_neg {v : Int} (h : v < 0) : Lib.itoa v = 45 :: Lib.decDigits v.natAbs := by unfold Lib.itoa; rw [if_pos h]
theorem itoa_nn {v : Int} (h : ¬ v < 0) : Lib.itoa v = Lib.decDigits v.toNat := by unfold Lib.itoa; rw [if_neg h]
theorem dg_ne45 (u : Nat) : (Lib.decDigits u).head? ≠ some 45 := by
  cases hd : Lib.decDigits u with
  | nil => simp
  | cons a r =>
    have := decDigits_val u
    rw [hd] at this
    obtain ⟨d, h⟩ := Lib.digit_of_decFrom _ _ _ this 0 a rfl
    obtain ⟨h1, h2, h3⟩ := digitVal_inv h
    simp only [List.head?_cons, ne_eq, Option.some.injEq]
    intro e
    subst e
    have : (45 : UInt8).toNat = 45 := rfl
    omega
theorem ref_itoa (v : Int) (h : (ds (Lib.itoa v)).length ≤ 9) : refNum (Lib.itoa v) = some v := by
  by_cases hv : v < 0
  · rw [itoa_neg hv] at h ⊢
    have e1 : ng (45 :: Lib.decDigits v.natAbs) = true := rfl
    have e2 : ds (45 :: Lib.decDigits v.natAbs) = Lib.decDigits v.natAbs := rfl
    unfold refNum
    rw [e2] at h ⊢
    rw [if_neg, decDigits_val, e1]
    · simp [sgn]; omega
    · rintro (h1 | h1 | ⟨h1, _⟩)
      · exact decDigits_ne _ h1
      · omega
      · exact decDigits_head _ (by omega) h1
  · rw [itoa_nn hv] at h ⊢
    have e1 : ng (Lib.decDigits v.toNat) = false := decide_eq_false (dg_ne45 _)
    have e2 : ds (Lib.decDigits v.toNat) = Lib.decDigits v.toNat := by unfold ds; rw [e1]; rfl
    unfold refNum
    rw [e2] at h ⊢
    rw [if_neg, decDigits_val, e1]
    · simp [sgn]; omega
    · rintro (h1 | h1 | ⟨h1, h2⟩)
      · exact decDigits_ne _ h1
      · omega
      · by_cases h0 : v.toNat = 0
        · rw [h0, decDigits_zero] at h2; simp at h2
        · exact decDigits_head _ (by omega) h1
theorem ref_inv {l : List UInt8} {v : Int} (h : refNum l = some v) : Lib.itoa v = l ∧ (ds l).length ≤ 9 ∧ Lib.atoiAll l = .ok v := by
  unfold refNum at h
  split at h
  · cases h
  rename_i hc
  have c1 : ds l ≠ [] := fun e => hc (.inl e)
  have c2 : (ds l).length ≤ 9 := by
    rcases Nat.lt_or_ge 9 (ds l).length with h1 | h1
    · exact absurd (.inr (.inl h1)) hc
    · exact h1
  have c3 : ¬ ((ds l).head? = some 48 ∧ 1 < l.length) := fun e => hc (.inr (.inr e))
  obtain ⟨m, hm, hv⟩ := Option.map_eq_some_iff.1 h
  have hlen : ∃ k, (ds l).length = k + 1 := ⟨(ds l).length - 1, by have := List.length_pos_iff.2 c1; omega⟩
  obtain ⟨k, hk⟩ := hlen
  have hl18 : l.length ≤ 18 := by
    have : l.length ≤ (ds l).length + 1 := by
      unfold ds; split
      · rw [List.length_tail]; omega
      · omega
    omega
  have hda : Lib.decNat (ds l) = some m := by
    unfold Lib.decNat
    rw [if_neg (by simpa using c1), hm]
  by_cases hn : ng l = true
  · -- a sign
    have hds : ds l = l.tail := by unfold ds; rw [if_pos hn]
    have hcons : l = 45 :: ds l := by
      cases l with
      | nil => simp [ng] at hn
      | cons a r =>
        have : a = 45 := by simpa [ng] using hn
        subst this; rw [hds]; rfl
    have h48 : (ds l).head? ≠ some 48 := fun e => c3 ⟨e, by rw [hcons]; simp; omega⟩
    obtain ⟨p1, p2⟩ := decDigits_of k (ds l) m hk h48 hm
    rw [hn] at hv
    have hv' : v = -(m : Int) := hv.symm
    refine ⟨?_, c2, ?_⟩
    · rw [hv', itoa_neg (by omega), show (-(m : Int)).natAbs = m by omega, p2]; exact hcons.symm
    · rw [Lib.atoiAll_short l hl18, hcons]
      simp only [Lib.atoi]
      rw [if_pos (by rfl), hda, hv']; rfl
  · have hn' : ng l = false := by simpa using hn
    have hds : ds l = l := by unfold ds; rw [hn']; rfl
    rw [hds] at hm hda c1 c3 hk
    rw [hn'] at hv
    have hv' : v = (m : Int) := hv.symm
    have hat : Lib.atoiAll l = .ok v := by
      rw [Lib.atoiAll_short l hl18]
      cases l with
      | nil => exact absurd rfl c1
      | cons a r =>
        have h45 : a ≠ 45 := by simpa [ng] using hn'
        obtain ⟨d, hd⟩ := Lib.digit_of_decFrom _ _ _ hm 0 a rfl
        obtain ⟨g1, g2, g3⟩ := digitVal_inv hd
        have h43 : a ≠ 43 := by
          intro e; subst e
          have : (43 : UInt8).toNat = 43 := rfl
          omega
        simp only [Lib.atoi]
        rw [if_neg (by simpa using h45), if_neg (by simpa using h43), hda, hv']; rfl
    refine ⟨?_, c2, hat⟩
    rw [hv', itoa_nn (by omega), show ((m : Int)).toNat = m by omega]
    by_cases h48 : l.head? = some 48
    · have h1 : ¬ 1 < l.length := fun e => c3 ⟨h48, e⟩
      match l, hk, h48, h1, hm with
      | [a], _, h48, _, hm =>
        have : a = 48 := by simpa using h48
        subst this
        have : m = 0 := by
          obtain ⟨n, d, h1, h2, h3⟩ := decFrom_snoc_inv [] 0 m 48 hm
          simp only [Lib.decFrom, Option.some.injEq] at h1
          have h4 : Lib.digitVal 48 = some 0 := rfl
          rw [h4] at h2; injection h2 with h2
          omega
        subst this
        exact decDigits_zero
      | a :: b :: r, _, _, h1, _ => simp at h1
    · exact (decDigits_of k l m hk h48 hm).2
theorem prg_ref (l : List UInt8) : prgNum l = refNum l := by
  unfold prgNum
  cases hr : refNum l with
  | some v =>
    obtain ⟨h1, h2, h3⟩ := ref_inv hr
    rw [h3]
    simp only
    rw [if_pos ⟨h1, by rw [trim_ds]; exact h2⟩]
  | none =>
    split
    · rename_i v hv
      split
      · rename_i hc
        obtain ⟨h1, h2⟩ := hc
        rw [trim_ds] at h2
        have := ref_itoa v (by rw [h1]; exact h2)
        rw [h1, hr] at this; cases this
      · rfl
    · rfl
end Go.Proofs.YtfpamehamllndaaGreatDoor
namespace Go.Proofs.YtfpamehamllndaaGreatDoor
open Go Go.Fi Go.RowKit
set_option maxRecDepth 20000

/-! ### the reference writes a number -/
theorem size_c (n : Int) (h0 : -1000000 ≤ n) (h1 : n ≤ 1000000) : RealCall Tryz.prog 61 [.int .i64 n] (.int .i64 n.natAbs) true := by
  have e : (if n < -n then -n else n) = ((n.natAbs : Nat) : Int) := by split <;> omega
  refine realcall_intro Tryz.func61 (by kernel_rfl) rfl (Nat.le_of_ble_eq_true (by kernel_rfl)) ?_
  simp only [Tryz.results61, Tryz.ntmps61]
  repeat' (first | (with_reducible first | refine awp_seq ?_ | refine awp_ret ?_ | refine awp_region ?_ | refine And.intro ?_ ?_ | exact EqV_w | exact EqE_w | exact EqV_fn | exact EqE_fn | exact EqV_gd | exact EqE_gd | intro _) | (simp [*, e]))
  all_goals exact inI64 (by omega) (by omega)
def digs (u : Nat) : List UInt8 := if u = 0 then [] else Lib.decDigits u
theorem digs_step (u : Nat) (h : u ≠ 0) : digs u = digs (u / 10) ++ [UInt8.ofNat (48 + u % 10)] := by
  unfold digs
  rw [if_neg h]
  conv => lhs; unfold Lib.decDigits
  split
  · rename_i h1
    rw [if_pos (by omega), show u % 10 = u by omega]; rfl
  · rename_i h1
    rw [if_neg (by omega)]
theorem sgn_div (b : Bool) (u : Nat) : (sgn b u).tdiv 10 = sgn b (u / 10) := by
  cases b
  · rfl
  · show (-(u : Int)).tdiv 10 = -((u / 10 : Nat) : Int)
    rw [Int.neg_tdiv]; rfl
theorem sgn_mod (b : Bool) (u : Nat) : (sgn b u).tmod 10 = sgn b (u % 10) := by
  cases b
  · rfl
  · show (-(u : Int)).tmod 10 = -((u % 10 : Nat) : Int)
    rw [Int.neg_tmod]; rfl
theorem sgn_abs (b : Bool) (u : Nat) : (sgn b u).natAbs = u := by cases b <;> simp [sgn]
theorem sgn_zero (b : Bool) (u : Nat) : sgn b u = 0 ↔ u = 0 := by
  cases b
  · show ((u : Nat) : Int) = 0 ↔ _; omega
  · show -((u : Nat) : Int) = 0 ↔ _; omega
theorem dec_sgn (b : Bool) (u : Nat) (h : u ≠ 0) : dec (sgn b u) = (if b = true then (⟨#[45]⟩ : ByteArray) else ⟨#[]⟩) ++ ⟨(digs u).toArray⟩ := by
  refine ba_ext ?_
  unfold dec digs
  rw [if_neg h]
  cases b
  · show (Lib.itoa (u : Int)).toArray.toList = _
    rw [itoa_nn (by omega)]; simp
  · show (Lib.itoa (-(u : Int))).toArray.toList = _
    rw [itoa_neg (by omega)]; simp
set_option maxHeartbeats 4000000 in
theorem decimal_c (n : Int) (h0 : -9223372036854775808 ≤ n) (h1 : n ≤ 9223372036854775807) : RealCall Tryz.prog 33 [.int .i64 n] (.str (dec n)) true := by
  by_cases hz : n = 0
  · subst hz
    have e : dec 0 = ⟨#[48]⟩ := by decide +kernel
    rw [e]
    refine realcall_intro Tryz.func33 (by kernel_rfl) rfl (Nat.le_of_ble_eq_true (by kernel_rfl)) ?_
    simp only [Tryz.results33, Tryz.ntmps33]
    repeat' (first | (with_reducible first | refine awp_seq ?_ | refine awp_ret ?_ | refine awp_region ?_ | refine awp_condM ?_ | exact EqV_w | exact EqE_w | exact EqV_fn | exact EqE_fn | exact EqV_gd | exact EqE_gd | intro _) | (simp [*]))
  · obtain ⟨b, u, e⟩ : ∃ b u, n = sgn b u := ⟨decide (n < 0), n.natAbs, by unfold sgn; split <;> simp at * <;> omega⟩
    subst e
    have hu : u ≠ 0 := fun e => hz ((sgn_zero b u).2 e)
    have hub : u ≤ 9223372036854775808 := by have := sgn_abs b u; omega
    have hlt : decide (sgn b u < 0) = b := by
      cases b
      · show decide (((u : Nat) : Int) < 0) = false; exact decide_eq_false (by omega)
      · show decide (-((u : Nat) : Int) < 0) = true; exact decide_eq_true (by omega)
    have hdl : (digs u).length ≤ 20 := by
      unfold digs
      rw [if_neg hu, Lib.decDigits_length]
      exact Lib.nDigits_le20 u (by omega)
    have kd := keep (dec_sgn b u hu)
    generalize dec (sgn b u) = T at *
    have kz := keep hz
    clear hz h0 h1
    cases b
    · have g1 : ¬ sgn false u < 0 := of_decide_eq_false hlt
      refine realcall_intro Tryz.func33 (by kernel_rfl) rfl (Nat.le_of_ble_eq_true (by kernel_rfl)) ?_
      simp only [Tryz.results33, Tryz.ntmps33]
      repeat' (first | (with_reducible first | refine awp_seq ?_ | refine awp_skip ?_ | refine awp_region ?_ | refine awp_condM ?_ | exact EqV_w | exact EqE_w | exact EqV_fn | exact EqE_fn | exact EqV_gd | exact EqE_gd | intro _) | (simp [*, (show ¬ sgn false u = 0 from kz), g1]))
      refine awp_for4 0 (fun (x : Nat × ByteArray) => x.1 ≤ 9223372036854775808 ∧ digs x.1 ++ x.2.data.toList = digs u) [4] (fun (x : Nat × ByteArray) => [(0, .w false false (.int .i64 (sgn false x.1))), (3, .w false false (.str x.2))]) [] (fun (x : Nat × ByteArray) => []) (fun (x : Nat × ByteArray) => x.1) (fun (_u : Unit) => True) [4] (fun (_u : Unit) => [(3, .w false false (.str ⟨(digs u).toArray⟩))]) [] (fun (_u : Unit) => []) ((u, (⟨#[]⟩ : ByteArray))) ⟨hub, by simp⟩ (le_gen [] (by simp) (by simp)) (fun x hk => ?_) (fun _u hf => ?_)
      · obtain ⟨v, t⟩ := x
        obtain ⟨hv, hj⟩ := hk
        dsimp only at hv hj
        by_cases hv0 : v = 0
        · subst hv0
          have hj2 : t = ⟨(digs u).toArray⟩ := ba_ext (by rw [← hj]; simp [digs])
          have e0 : sgn false 0 = 0 := rfl
          clear hj
          subst hj2
          repeat' (first | (with_reducible first | refine awp_seq ?_ | refine awp_exit ?_ | refine awp_region ?_ | refine awp_condM ?_ | exact EqV_w | exact EqE_w | exact EqV_fn | exact EqE_fn | exact EqV_gd | exact EqE_gd | intro _) | (simp [*, e0]))
          all_goals (refine finW_intro () ?_ ?_; (· trivial); (refine le_gen [] ?_ ?_ <;> first | trivial | (simp [*]; done)))
        · have e1 : ¬ sgn false v = 0 := fun e => hv0 ((sgn_zero _ _).1 e)
          have e2 := sgn_div false v
          have e3 := sgn_mod false v
          have b1 : -922337203685477581 ≤ sgn false (v / 10) ∧ sgn false (v / 10) ≤ 922337203685477581 := by have := sgn_abs false (v / 10); omega
          have b2 : -9 ≤ sgn false (v % 10) ∧ sgn false (v % 10) ≤ 9 := by have := sgn_abs false (v % 10); omega
          have cs := size_c (sgn false (v % 10)) (by omega) (by omega)
          rw [sgn_abs] at cs
          have hm : v % 10 < 10 := Nat.mod_lt _ (by decide)
          have hj2 := hj
          rw [digs_step v hv0, List.append_assoc] at hj2
          have htl : t.size ≤ 20 := by
            have := congrArg List.length hj2
            simp only [List.length_append, List.length_cons] at this
            show t.data.size ≤ 20
            rw [← Array.length_toList]; omega
          have hby : (⟨#[UInt8.ofNat ((48 : Int) + ((v % 10 : Nat) : Int)).toNat]⟩ : ByteArray).size = 1 := rfl
          have kj := keep (show digs (v / 10) ++ ((⟨#[UInt8.ofNat ((48 : Int) + ((v % 10 : Nat) : Int)).toNat]⟩ : ByteArray) ++ t).data.toList = digs u by
            rw [← hj2]
            have : ((48 : Int) + ((v % 10 : Nat) : Int)).toNat = 48 + v % 10 := by omega
            rw [this]; simp)
          have kv := keep hv0
          have hvd : v / 10 < v := by omega
          clear hj hj2 hv0
          generalize sgn false v = nv at *
          generalize v % 10 = r at *
          generalize sgn false r = dv at *
          repeat' (first | (with_reducible first | refine awp_regionBk (id := 8) 5 (by decide) rfl (by kernel_rfl) ?_ | refine byteM_intro (by simp) rfl rfl rfl ?_ | refine awp_seq ?_ | refine awp_blockS ?_ | refine awp_skip ?_ | refine awp_region ?_ | refine awp_condM ?_ | refine And.intro ?_ ?_ | exact EqV_w | exact EqE_w | exact EqV_fn | exact EqE_fn | exact EqV_gd | exact EqE_gd | refine cw (cs) ?_ | intro _) | (simp [*, e1, e2, e3]) | (refine cw_eq (cs) ?_ ?_; (· (simp [*]; done))))
          all_goals try first | exact inI64 (by omega) (by omega) | omega | exact (show inI .u8 _ from ⟨by show (0 : Int) ≤ _; omega, by show _ ≤ (255 : Int); omega⟩)
          all_goals (refine loopK_normal _ _ _ _ _ (v / 10, (⟨#[UInt8.ofNat ((48 : Int) + (r : Int)).toNat]⟩ : ByteArray) ++ t) _ ?_ (by first | omega | (dsimp only; omega) | (simp; omega)) ?_; (· exact ⟨by omega, kj⟩); (refine le_gen [] ?_ ?_ <;> first | trivial | (simp [*]; done)))
      · repeat' (first | (with_reducible first | refine awp_seq ?_ | refine awp_ret ?_ | refine awp_region ?_ | refine And.intro ?_ ?_ | exact EqV_w | exact EqE_w | exact EqV_fn | exact EqE_fn | exact EqV_gd | exact EqE_gd | intro _) | (simp [*]))
        all_goals first | exact (show T = _ from kd).symm | (have hz1 : (⟨(digs u).toArray⟩ : ByteArray).size = (digs u).length := List.size_toArray; have hz2 : (⟨#[45]⟩ : ByteArray).size = 1 := rfl; have hz3 : (⟨#[]⟩ : ByteArray).size = 0 := rfl; omega)
    · have g1 : sgn true u < 0 := of_decide_eq_true hlt
      refine realcall_intro Tryz.func33 (by kernel_rfl) rfl (Nat.le_of_ble_eq_true (by kernel_rfl)) ?_
      simp only [Tryz.results33, Tryz.ntmps33]
      repeat' (first | (with_reducible first | refine awp_seq ?_ | refine awp_skip ?_ | refine awp_region ?_ | refine awp_condM ?_ | exact EqV_w | exact EqE_w | exact EqV_fn | exact EqE_fn | exact EqV_gd | exact EqE_gd | intro _) | (simp [*, (show ¬ sgn true u = 0 from kz), g1]))
      refine awp_for4 0 (fun (x : Nat × ByteArray) => x.1 ≤ 9223372036854775808 ∧ digs x.1 ++ x.2.data.toList = digs u) [4] (fun (x : Nat × ByteArray) => [(0, .w false false (.int .i64 (sgn true x.1))), (3, .w false false (.str x.2))]) [] (fun (x : Nat × ByteArray) => []) (fun (x : Nat × ByteArray) => x.1) (fun (_u : Unit) => True) [4] (fun (_u : Unit) => [(3, .w false false (.str ⟨(digs u).toArray⟩))]) [] (fun (_u : Unit) => []) ((u, (⟨#[]⟩ : ByteArray))) ⟨hub, by simp⟩ (le_gen [] (by simp) (by simp)) (fun x hk => ?_) (fun _u hf => ?_)
      · obtain ⟨v, t⟩ := x
        obtain ⟨hv, hj⟩ := hk
        dsimp only at hv hj
        by_cases hv0 : v = 0
        · subst hv0
          have hj2 : t = ⟨(digs u).toArray⟩ := ba_ext (by rw [← hj]; simp [digs])
          have e0 : sgn true 0 = 0 := rfl
          clear hj
          subst hj2
          repeat' (first | (with_reducible first | refine awp_seq ?_ | refine awp_exit ?_ | refine awp_region ?_ | refine awp_condM ?_ | exact EqV_w | exact EqE_w | exact EqV_fn | exact EqE_fn | exact EqV_gd | exact EqE_gd | intro _) | (simp [*, e0]))
          all_goals (refine finW_intro () ?_ ?_; (· trivial); (refine le_gen [] ?_ ?_ <;> first | trivial | (simp [*]; done)))
        · have e1 : ¬ sgn true v = 0 := fun e => hv0 ((sgn_zero _ _).1 e)
          have e2 := sgn_div true v
          have e3 := sgn_mod true v
          have b1 : -922337203685477581 ≤ sgn true (v / 10) ∧ sgn true (v / 10) ≤ 922337203685477581 := by have := sgn_abs true (v / 10); omega
          have b2 : -9 ≤ sgn true (v % 10) ∧ sgn true (v % 10) ≤ 9 := by have := sgn_abs true (v % 10); omega
          have cs := size_c (sgn true (v % 10)) (by omega) (by omega)
          rw [sgn_abs] at cs
          have hm : v % 10 < 10 := Nat.mod_lt _ (by decide)
          have hj2 := hj
          rw [digs_step v hv0, List.append_assoc] at hj2
          have htl : t.size ≤ 20 := by
            have := congrArg List.length hj2
            simp only [List.length_append, List.length_cons] at this
            show t.data.size ≤ 20
            rw [← Array.length_toList]; omega
          have hby : (⟨#[UInt8.ofNat ((48 : Int) + ((v % 10 : Nat) : Int)).toNat]⟩ : ByteArray).size = 1 := rfl
          have kj := keep (show digs (v / 10) ++ ((⟨#[UInt8.ofNat ((48 : Int) + ((v % 10 : Nat) : Int)).toNat]⟩ : ByteArray) ++ t).data.toList = digs u by
            rw [← hj2]
            have : ((48 : Int) + ((v % 10 : Nat) : Int)).toNat = 48 + v % 10 := by omega
            rw [this]; simp)
          have kv := keep hv0
          have hvd : v / 10 < v := by omega
          clear hj hj2 hv0
          generalize sgn true v = nv at *
          generalize v % 10 = r at *
          generalize sgn true r = dv at *
          repeat' (first | (with_reducible first | refine awp_regionBk (id := 8) 5 (by decide) rfl (by kernel_rfl) ?_ | refine byteM_intro (by simp) rfl rfl rfl ?_ | refine awp_seq ?_ | refine awp_blockS ?_ | refine awp_skip ?_ | refine awp_region ?_ | refine awp_condM ?_ | refine And.intro ?_ ?_ | exact EqV_w | exact EqE_w | exact EqV_fn | exact EqE_fn | exact EqV_gd | exact EqE_gd | refine cw (cs) ?_ | intro _) | (simp [*, e1, e2, e3]) | (refine cw_eq (cs) ?_ ?_; (· (simp [*]; done))))
          all_goals try first | exact inI64 (by omega) (by omega) | omega | exact (show inI .u8 _ from ⟨by show (0 : Int) ≤ _; omega, by show _ ≤ (255 : Int); omega⟩)
          all_goals (refine loopK_normal _ _ _ _ _ (v / 10, (⟨#[UInt8.ofNat ((48 : Int) + (r : Int)).toNat]⟩ : ByteArray) ++ t) _ ?_ (by first | omega | (dsimp only; omega) | (simp; omega)) ?_; (· exact ⟨by omega, kj⟩); (refine le_gen [] ?_ ?_ <;> first | trivial | (simp [*]; done)))
      · repeat' (first | (with_reducible first | refine awp_seq ?_ | refine awp_ret ?_ | refine awp_region ?_ | refine And.intro ?_ ?_ | exact EqV_w | exact EqE_w | exact EqV_fn | exact EqE_fn | exact EqV_gd | exact EqE_gd | intro _) | (simp [*]))
        all_goals first | exact (show T = _ from kd).symm | (have hz1 : (⟨(digs u).toArray⟩ : ByteArray).size = (digs u).length := List.size_toArray; have hz2 : (⟨#[45]⟩ : ByteArray).size = 1 := rfl; have hz3 : (⟨#[]⟩ : ByteArray).size = 0 := rfl; omega)
end Go.Proofs.YtfpamehamllndaaGreatDoor

