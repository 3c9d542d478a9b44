/- Contracts of functions for this claim: lemmas alone. -/
import Derived.Test.YtpjhpmpbdfeajaaGreatDoorP13
import Derived.Lib.AtoiTie
import Derived.Lib.AtoiAllCases
import Derived.Test.YtpjhpmpbdfeajaaGreatDoorP201
import Derived.Test.YtpjhpmpbdfeajaaGreatDoorLv
set_option linter.unusedSimpArgs false
set_option linter.unusedVariables false
namespace Go.Proofs.YtpjhpmpbdfeajaaGreatDoor
open Go Go.Fi
set_option maxRecDepth 20000

/-! ### numerals -/
theorem digitVal_dg {d : Nat} (h : d < 10) : Lib.digitVal (UInt8.ofNat (48 + d)) = some d := by
  unfold Lib.digitVal
  have e : (UInt8.ofNat (48 + d)).toNat = 48 + d := by simp; omega
  rw [e, if_pos (by omega)]; congr 1; omega
theorem decFrom_snoc : ∀ (l : List UInt8) (acc n : Nat) (b : UInt8) (d : Nat), Lib.decFrom acc l = some n → Lib.digitVal b = some d → Lib.decFrom acc (l ++ [b]) = some (n * 10 + d)
  | [], acc, n, b, d, h, hb => by
    simp only [Lib.decFrom, Option.some.injEq] at h; subst h
    simp [Lib.decFrom, hb]
  | a :: l, acc, n, b, d, h, hb => by
    simp only [List.cons_append, Lib.decFrom] at h ⊢
    split at h
    · exact decFrom_snoc l _ n b d h hb
    · cases h
theorem decFrom_snoc_inv : ∀ (l : List UInt8) (acc m : Nat) (b : UInt8), Lib.decFrom acc (l ++ [b]) = some m → ∃ n d, Lib.decFrom acc l = some n ∧ Lib.digitVal b = some d ∧ m = n * 10 + d
  | [], acc, m, b, h => by
    simp only [List.nil_append, Lib.decFrom] at h
    split at h
    · rename_i d hd; injection h with h; exact ⟨acc, d, rfl, hd, h.symm⟩
    · cases h
  | a :: l, acc, m, b, h => by
    simp only [List.cons_append, Lib.decFrom] at h ⊢
    split at h
    · rename_i d hd
      exact decFrom_snoc_inv l _ m b h
    · cases h
theorem digitVal_inv {b : UInt8} {d : Nat} (h : Lib.digitVal b = some d) : d < 10 ∧ b = UInt8.ofNat (48 + d) ∧ b.toNat = 48 + d := by
  unfold Lib.digitVal at h
  split at h
  · rename_i hb
    injection h with h
    have e : b.toNat = 48 + d := by omega
    exact ⟨by omega, by rw [← e]; simp, e⟩
  · cases h
theorem decDigits_ne (u : Nat) : Lib.decDigits u ≠ [] := by
  unfold Lib.decDigits
  split <;> simp
theorem decDigits_val (u : Nat) : Lib.decFrom 0 (Lib.decDigits u) = some u := by
  induction u using Nat.strongRecOn with
  | _ u ih =>
    unfold Lib.decDigits
    split
    · rename_i h
      simp only [Lib.decFrom, digitVal_dg h]
      simp
    · rename_i h
      rw [decFrom_snoc _ 0 (u / 10) _ (u % 10) (ih _ (by omega)) (digitVal_dg (by omega))]
      congr 1; omega
theorem decDigits_head (u : Nat) (h : 0 < u) : (Lib.decDigits u).head? ≠ some 48 := by
  induction u using Nat.strongRecOn with
  | _ u ih =>
    unfold Lib.decDigits
    split
    · rename_i hu
      simp only [List.head?_cons, ne_eq, Option.some.injEq]
      intro e
      have := congrArg UInt8.toNat e
      simp at this; omega
    · rename_i hu
      have h1 := ih (u / 10) (by omega) (by omega)
      have h2 := decDigits_ne (u / 10)
      cases hd : Lib.decDigits (u / 10) with
      | nil => exact absurd hd h2
      | cons a r => rw [hd] at h1; simpa using h1
theorem decDigits_zero : Lib.decDigits 0 = [48] := by unfold Lib.decDigits; rfl
/-- a row of digits without a nought ahead is its number's numeral -/
theorem decDigits_of : ∀ (k : Nat) (l : List UInt8) (m : Nat), l.length = k + 1 → (l.head? ≠ some 48) → Lib.decFrom 0 l = some m → 0 < m ∧ Lib.decDigits m = l
  | 0, l, m, hl, hh, hm => by
    match l, hl with
    | [b], _ =>
      obtain ⟨n, d, h1, h2, h3⟩ := decFrom_snoc_inv [] 0 m b hm
      simp only [Lib.decFrom, Option.some.injEq] at h1
      subst h1
      obtain ⟨h4, h5, h6⟩ := digitVal_inv h2
      have : d ≠ 0 := by
        intro e; subst e
        exact hh (by rw [h5]; rfl)
      have e : m = d := by omega
      subst e
      refine ⟨by omega, ?_⟩
      unfold Lib.decDigits
      rw [dif_pos h4, h5]
  | k + 1, l, m, hl, hh, hm => by
    obtain ⟨i, b, rfl⟩ : ∃ i b, l = i ++ [b] := ⟨l.dropLast, l.getLast (by intro e; subst e; simp at hl), (List.dropLast_concat_getLast _).symm⟩
    obtain ⟨n, d, h1, h2, h3⟩ := decFrom_snoc_inv i 0 m b hm
    obtain ⟨h4, h5, h6⟩ := digitVal_inv h2
    have hi : i.length = k + 1 := by simpa using hl
    obtain ⟨p1, p2⟩ := decDigits_of k i n hi (by
      cases i with
      | nil => simp at hi
      | cons a r => simpa using hh) h1
    refine ⟨by omega, ?_⟩
    unfold Lib.decDigits
    rw [dif_neg (by omega), show m / 10 = n by omega, p2, show m % 10 = d by omega, h5]
/-! ### numbers of texts -/
def ng (l : List UInt8) : Bool := decide (l.head? = some 45)
def ds (l : List UInt8) : List UInt8 := if ng l = true then l.tail else l
def sgn (b : Bool) (m : Nat) : Int := if b = true then -(m : Int) else m
/-- what the reference reads -/
def refNum (l : List UInt8) : Option Int :=
  if ds l = [] ∨ 15 < (ds l).length ∨ ((ds l).head? = some 48 ∧ 1 < l.length) then none else (Lib.decFrom 0 (ds l)).map (sgn (ng l))
/-- what the program reads -/
def prgNum (l : List UInt8) : Option Int :=
  match Lib.atoiAll l with
  | .ok v => if Lib.itoa v = l ∧ (Lib.trimPrefix l [45]).length ≤ 15 then some v else none
  | _ => none
theorem trim_ds (l : List UInt8) : Lib.trimPrefix l [45] = ds l := by
  unfold ds ng
  cases l with
  | nil => rfl
  | cons a r =>
    by_cases h : a = 45
    · subst h
      rfl
    · simp only [List.head?_cons, Option.some.injEq, h, decide_false, Bool.false_eq_true, if_false]
      unfold Lib.trimPrefix
      rw [if_neg]
      intro e
      simp [Lib.hasPrefix] at e
      first | exact h e.symm | exact h e
theorem itoa_neg {v : Int} (h : v < 0) : Lib.itoa v = 45 :: Lib.decDigits v.natAbs := by unfold Lib.itoa; rw [if_pos h]
theorem itoa_nn {v : Int} (h : ¬ v < 0) : Lib.itoa v = Lib.decDigits v.toNat := by unfold Lib.itoa; rw [if_neg h]
theorem dg_ne45 (u : Nat) : (Lib.decDigits u).head? ≠ some 45 := by
  cases hd : Lib.decDigits u with
  | nil => simp
  | cons a r =>
    have := decDigits_val u
    rw [hd] at this
    obtain ⟨d, h⟩ := Lib.digit_of_decFrom _ _ _ this 0 a rfl
    obtain ⟨h1, h2, h3⟩ := digitVal_inv h
    simp only [List.head?_cons, ne_eq, Option.some.injEq]
    intro e
    subst e
    have : (45 : UInt8).toNat = 45 := rfl
    omega
theorem ref_itoa (v : Int) (h : (ds (Lib.itoa v)).length ≤ 15) : refNum (Lib.itoa v) = some v := by
  by_cases hv : v < 0
  · rw [itoa_neg hv] at h ⊢
    have e1 : ng (45 :: Lib.decDigits v.natAbs) = true := rfl
    have e2 : ds (45 :: Lib.decDigits v.natAbs) = Lib.decDigits v.natAbs := rfl
    unfold refNum
    rw [e2] at h ⊢
    rw [if_neg, decDigits_val, e1]
    · simp [sgn]; omega
    · rintro (h1 | h1 | ⟨h1, _⟩)
      · exact decDigits_ne _ h1
      · omega
      · exact decDigits_head _ (by omega) h1
  · rw [itoa_nn hv] at h ⊢
    have e1 : ng (Lib.decDigits v.toNat) = false := decide_eq_false (dg_ne45 _)
    have e2 : ds (Lib.decDigits v.toNat) = Lib.decDigits v.toNat := by unfold ds; rw [e1]; rfl
    unfold refNum
    rw [e2] at h ⊢
    rw [if_neg, decDigits_val, e1]
    · simp [sgn]; omega
    · rintro (h1 | h1 | ⟨h1, h2⟩)
      · exact decDigits_ne _ h1
      · omega
      · by_cases h0 : v.toNat = 0
        · rw [h0, decDigits_zero] at h2; simp at h2
        · exact decDigits_head _ (by omega) h1
theorem ref_inv {l : List UInt8} {v : Int} (h : refNum l = some v) : Lib.itoa v = l ∧ (ds l).length ≤ 15 ∧ Lib.atoiAll l = .ok v := by
  unfold refNum at h
  split at h
  · cases h
  rename_i hc
  have c1 : ds l ≠ [] := fun e => hc (.inl e)
  have c2 : (ds l).length ≤ 15 := by
    rcases Nat.lt_or_ge 15 (ds l).length with h1 | h1
    · exact absurd (.inr (.inl h1)) hc
    · exact h1
  have c3 : ¬ ((ds l).head? = some 48 ∧ 1 < l.length) := fun e => hc (.inr (.inr e))
  obtain ⟨m, hm, hv⟩ := Option.map_eq_some_iff.1 h
  have hlen : ∃ k, (ds l).length = k + 1 := ⟨(ds l).length - 1, by have := List.length_pos_iff.2 c1; omega⟩
  obtain ⟨k, hk⟩ := hlen
  have hl18 : l.length ≤ 18 := by
    have : l.length ≤ (ds l).length + 1 := by
      unfold ds; split
      · rw [List.length_tail]; omega
      · omega
    omega
  have hda : Lib.decNat (ds l) = some m := by
    unfold Lib.decNat
    rw [if_neg (by simpa using c1), hm]
  by_cases hn : ng l = true
  · -- a sign
    have hds : ds l = l.tail := by unfold ds; rw [if_pos hn]
    have hcons : l = 45 :: ds l := by
      cases l with
      | nil => simp [ng] at hn
      | cons a r =>
        have : a = 45 := by simpa [ng] using hn
        subst this; rw [hds]; rfl
    have h48 : (ds l).head? ≠ some 48 := fun e => c3 ⟨e, by rw [hcons]; simp; omega⟩
    obtain ⟨p1, p2⟩ := decDigits_of k (ds l) m hk h48 hm
    rw [hn] at hv
    have hv' : v = -(m : Int) := hv.symm
    refine ⟨?_, c2, ?_⟩
    · rw [hv', itoa_neg (by omega), show (-(m : Int)).natAbs = m by omega, p2]; exact hcons.symm
    · rw [Lib.atoiAll_short l hl18, hcons]
      simp only [Lib.atoi]
      rw [if_pos (by rfl), hda, hv']; rfl
  · have hn' : ng l = false := by simpa using hn
    have hds : ds l = l := by unfold ds; rw [hn']; rfl
    rw [hds] at hm hda c1 c3 hk
    rw [hn'] at hv
    have hv' : v = (m : Int) := hv.symm
    have hat : Lib.atoiAll l = .ok v := by
      rw [Lib.atoiAll_short l hl18]
      cases l with
      | nil => exact absurd rfl c1
      | cons a r =>
        have h45 : a ≠ 45 := by simpa [ng] using hn'
        obtain ⟨d, hd⟩ := Lib.digit_of_decFrom _ _ _ hm 0 a rfl
        obtain ⟨g1, g2, g3⟩ := digitVal_inv hd
        have h43 : a ≠ 43 := by
          intro e; subst e
          have : (43 : UInt8).toNat = 43 := rfl
          omega
        simp only [Lib.atoi]
        rw [if_neg (by simpa using h45), if_neg (by simpa using h43), hda, hv']; rfl
    refine ⟨?_, c2, hat⟩
    rw [hv', itoa_nn (by omega), show ((m : Int)).toNat = m by omega]
    by_cases h48 : l.head? = some 48
    · have h1 : ¬ 1 < l.length := fun e => c3 ⟨h48, e⟩
      match l, hk, h48, h1, hm with
      | [a], _, h48, _, hm =>
        have : a = 48 := by simpa using h48
        subst this
        have : m = 0 := by
          obtain ⟨n, d, h1, h2, h3⟩ := decFrom_snoc_inv [] 0 m 48 hm
          simp only [Lib.decFrom, Option.some.injEq] at h1
          have h4 : Lib.digitVal 48 = some 0 := rfl
          rw [h4] at h2; injection h2 with h2
          omega
        subst this
        exact decDigits_zero
      | a :: b :: r, _, _, h1, _ => simp at h1
    · exact (decDigits_of k l m hk h48 hm).2
theorem prg_ref (l : List UInt8) : prgNum l = refNum l := by
  unfold prgNum
  cases hr : refNum l with
  | some v =>
    obtain ⟨h1, h2, h3⟩ := ref_inv hr
    rw [h3]
    simp only
    rw [if_pos ⟨h1, by rw [trim_ds]; exact h2⟩]
  | none =>
    split
    · rename_i v hv
      split
      · rename_i hc
        obtain ⟨h1, h2⟩ := hc
        rw [trim_ds] at h2
        have := ref_itoa v (by rw [h1]; exact h2)
        rw [h1, hr] at this; cases this
      · rfl
    · rfl
end Go.Proofs.YtpjhpmpbdfeajaaGreatDoor
namespace Go.Proofs.YtpjhpmpbdfeajaaGreatDoor
open Go Go.Fi Go.RowKit Go.Shelf
set_option maxRecDepth 20000

/-! ### numbers and lines of texts, right or wrong -/
theorem cutL_len (c : UInt8) : ∀ l : List UInt8, (cutL c l).length = l.count c + 1
  | [] => rfl
  | b :: l => by
    have ih := cutL_len c l
    unfold cutL
    by_cases h : b = c
    · subst h; rw [if_pos rfl, List.length_cons, ih, List.count_cons_self]
    · rw [if_neg h, List.count_cons_of_ne h]
      split
      · rename_i e; exact absurd e (cutL_ne c l)
      · rename_i e; rw [e] at ih; simpa using ih
theorem cutL_two (c : UInt8) (l : List UInt8) (h : l.count c = 1) : cutL c l = [(Lib.cut l [c]).1, (Lib.cut l [c]).2.1] := by
  have hc := Lib.count_one c l
  rw [h] at hc
  rw [← cutL_splitK, hc]
  have hm : ¬ Lib.index l [c] = -1 := fun e => by rw [Lib.count_miss e] at hc; cases hc
  have hge := Lib.index_ge l [c]
  unfold Lib.splitK
  rw [if_neg (fun e => hm (beq_iff_eq.1 e))]
  unfold Lib.cut
  rw [if_pos (by omega)]
  simp [Lib.splitK]
theorem pieces_map (s : ByteArray) (c : UInt8) : pieces s ⟨#[c]⟩ = (cutL c s.data.toList).map fun l => (⟨l.toArray⟩ : ByteArray) := by
  rw [← pieces_cut, List.map_map]
  conv => lhs; rw [← List.map_id (pieces s ⟨#[c]⟩)]
  apply List.map_congr_left
  intro x _
  exact ba_ext (by simp)
theorem pieces_count (s : ByteArray) (c : UInt8) : (pieces s ⟨#[c]⟩).length = Lib.countByte s.data.toList c + 1 := by
  rw [pieces_map, List.length_map, cutL_len]; rfl
def cutA (s : ByteArray) (c : UInt8) : ByteArray := ⟨(Lib.cut s.data.toList [c]).1.toArray⟩
def cutB (s : ByteArray) (c : UInt8) : ByteArray := ⟨(Lib.cut s.data.toList [c]).2.1.toArray⟩
theorem pieces_two (s : ByteArray) (c : UInt8) (h : Lib.countByte s.data.toList c = 1) : pieces s ⟨#[c]⟩ = [cutA s c, cutB s c] := by
  rw [pieces_map, cutL_two c _ h]; rfl
def numS (s : ByteArray) : Option Int := refNum s.data.toList
def lineS (s : ByteArray) : Option Line := if Lib.countByte s.data.toList 61 = 1 ∧ cutA s 61 ≠ ⟨#[]⟩ then (numS (cutB s 61)).map fun n => ⟨cutA s 61, n⟩ else none
theorem cutB_size (s : ByteArray) (c : UInt8) : (cutB s c).size ≤ s.size := by
  have e1 : (cutB s c).size = (Lib.cut s.data.toList [c]).2.1.length := by
    show (Lib.cut s.data.toList [c]).2.1.toArray.size = _
    rw [List.size_toArray]
  have e2 : s.size = s.data.toList.length := by
    show s.data.size = _
    rw [Array.length_toList]
  rw [e1, e2]
  unfold Lib.cut
  split
  · simp only [List.length_drop]; omega
  · simp
theorem num_ok {s : ByteArray} {v : Int} (hs : s.size < 1000) (h : numS s = some v) : NumOk s v := by
  obtain ⟨h1, h2, h3⟩ := ref_inv h
  have hb := Lib.atoiAll_bounds h3
  exact ⟨hs, h3, hb.1, hb.2, ba_ext (by show (Lib.itoa v).toArray.toList = _; simpa using h1), by rw [trim_ds]; exact h2⟩
theorem global_syn : Tryz.prog.globalNamed "strconv.ErrSyntax" = some (atoiRen.g 15) := by kernel_rfl
theorem global_rng : Tryz.prog.globalNamed "strconv.ErrRange" = some (atoiRen.g 16) := by kernel_rfl
theorem atoiE_c (s : ByteArray) (hs : s.size < 1000) (h : ∀ v, Lib.atoiAll s.data.toList ≠ .ok v) : RealCall Tryz.prog 126 [.str s] (.tup [.undef, .ifc (atoiRen.t 168) .undef]) true := by
  refine ⟨⟨_, Tryz.func126, by kernel_rfl, by kernel_rfl⟩, fun G w vs hok hl hrep => ?_⟩
  obtain ⟨v0, rfl⟩ := vs1 hl
  have r0 := hrep 0 _ v0 rfl rfl
  cases r0
  obtain ⟨t1, q1, hsyn⟩ := (show LaidOk w from hok).esyn
  obtain ⟨t2, q2, hrng⟩ := (show LaidOk w from hok).erng
  have fin : ∀ (e : Ending) (w' : World) (n : Int) (N : Nat), e = .returned (.tuple #[.int .i64 n, .iface (atoiRen.t 168) (.pointer (some ⟨N, 0, none⟩))]) → Below w.heap.size w w' →
      ∃ v, e = .returned v ∧ Below w.heap.size w w' ∧ Rep (fun b => (b < w.heap.size → G b) ∧ (true = true → w.heap.size ≤ b)) w' (.tup [.undef, .ifc (atoiRen.t 168) .undef]) v := by
    rintro e w' n N rfl hb
    refine ⟨_, rfl, hb, .tup rfl (fun j p u hp hu => ?_)⟩
    match j, hp, hu with
    | 0, hp, hu => simp at hp hu; subst hp; subst hu; exact .undef _
    | 1, hp, hu => simp at hp hu; subst hp; subst hu; exact .ifc (.undef _)
  cases hv : Lib.atoiAll s.data.toList
  · rename_i v; exact absurd hv (h v)
  · refine (Any.strconv_Atoi_syntax atoiLaysC_n172 s (by omega) hv (.iface t1 q1) w (by simpa using World.var?_cell global_syn hsyn 0) (.inr ⟨_, _, rfl⟩)).mono ?_
    rintro e w' ⟨N, he, _, _, hb⟩
    exact fin e w' _ N he hb
  · refine (Any.strconv_Atoi_range atoiLaysC_n172 s (by omega) hv (.iface t2 q2) w (by simpa using World.var?_cell global_rng hrng 0) (.inr ⟨_, _, rfl⟩)).mono ?_
    rintro e w' ⟨N, he, _, _, hb⟩
    exact fin e w' _ N he hb
abbrev errW (s : ByteArray) : PV := .ifc 97 (.str s)
set_option maxHeartbeats 4000000 in
theorem number_bad (s : ByteArray) (hs : s.size < 1000) (h : numS s = none) : RealCall Tryz.prog 93 [.str s] (.tup [.int .i64 0, errW s]) false := by
  have hp : prgNum s.data.toList = none := by rw [prg_ref]; exact h
  unfold prgNum at hp
  have c3 := trimP_c s ⟨#[45]⟩
  have e : (⟨#[45]⟩ : ByteArray).data.toList = [45] := rfl
  rw [e] at c3
  cases hv : Lib.atoiAll s.data.toList with
  | ok v =>
    rw [hv] at hp
    have hb := Lib.atoiAll_bounds hv
    have c1 := atoi_c s (by omega) v hv
    have c2 := itoa_c v hb.1 hb.2
    by_cases hd : dec v = s
    · have hl : (15 : Int) < ((⟨(Lib.trimPrefix s.data.toList [45]).toArray⟩ : ByteArray).size : Int) := by
        have h1 : ¬ (Lib.trimPrefix s.data.toList [45]).length ≤ 15 := fun h2 => by
          simp only at hp
          rw [if_pos ⟨by rw [← hd]; simp [dec], h2⟩] at hp; cases hp
        show (15 : Int) < (((Lib.trimPrefix s.data.toList [45]).toArray.size : Nat) : Int)
        rw [List.size_toArray]; omega
      rw [hd] at c2
      clear hp h e hb hv hd
      generalize (⟨(Lib.trimPrefix s.data.toList [45]).toArray⟩ : ByteArray) = q at *
      refine realcall_intro Tryz.func93 (by kernel_rfl) rfl (Nat.le_of_ble_eq_true (by kernel_rfl)) ?_
      simp only [Tryz.results93, Tryz.ntmps93]
      repeat' (first | (with_reducible first | refine awp_nili (ow := true) (fl := false) (p := .nili) (b := true) (r := false) rfl Tryz.underlying94 (by simp) rfl rfl (by decide) (by decide) ?_ | refine awp_seq ?_ | refine awp_blockS ?_ | refine awp_blockC ?_ | refine awp_blockR ?_ | refine awp_skip ?_ | refine awp_ret ?_ | refine awp_exit ?_ | refine awp_region ?_ | refine awp_condM ?_ | refine And.intro ?_ ?_ | apply gQ_merge | apply gE_merge | exact EqV_w | exact EqE_w | exact EqV_ptr | exact EqE_ptr | exact EqV_msl | exact EqE_msl | exact EqV_agg | exact EqE_agg | exact EqV_fn | exact EqE_fn | exact EqV_gd | exact EqE_gd | refine gM_splitN ?_ ?_ | refine gM_split ?_ ?_ |  refine condM_splitDN ?_ ?_ | refine condM_splitD ?_ ?_ | refine condM_splitN ?_ ?_ | refine condM_split ?_ ?_ | refine condM_any ?_ ?_ | refine cw (c1) ?_ | refine cw (c2) ?_ | refine cw (c3) ?_ | intro _) | (simp [*, hl]) | (refine cw_eq (c1) ?_ ?_; (· (simp [*]; done))) | (refine cw_eq (c2) ?_ ?_; (· (simp [*]; done))) | (refine cw_eq (c3) ?_ ?_; (· (simp [*]; done))))
    · clear hp h e hb hv c3
      generalize dec v = t at *
      refine realcall_intro Tryz.func93 (by kernel_rfl) rfl (Nat.le_of_ble_eq_true (by kernel_rfl)) ?_
      simp only [Tryz.results93, Tryz.ntmps93]
      repeat' (first | (with_reducible first | refine awp_nili (ow := true) (fl := false) (p := .nili) (b := true) (r := false) rfl Tryz.underlying94 (by simp) rfl rfl (by decide) (by decide) ?_ | refine awp_seq ?_ | refine awp_blockS ?_ | refine awp_blockC ?_ | refine awp_blockR ?_ | refine awp_skip ?_ | refine awp_ret ?_ | refine awp_exit ?_ | refine awp_region ?_ | refine awp_condM ?_ | refine And.intro ?_ ?_ | apply gQ_merge | apply gE_merge | exact EqV_w | exact EqE_w | exact EqV_ptr | exact EqE_ptr | exact EqV_msl | exact EqE_msl | exact EqV_agg | exact EqE_agg | exact EqV_fn | exact EqE_fn | exact EqV_gd | exact EqE_gd | refine gM_splitN ?_ ?_ | refine gM_split ?_ ?_ |  refine condM_splitDN ?_ ?_ | refine condM_splitD ?_ ?_ | refine condM_splitN ?_ ?_ | refine condM_split ?_ ?_ | refine condM_any ?_ ?_ | refine cw (c1) ?_ | refine cw (c2) ?_ | intro _) | (simp [*, hd]) | (refine cw_eq (c1) ?_ ?_; (· (simp [*]; done))) | (refine cw_eq (c2) ?_ ?_; (· (simp [*]; done))))
  | _ =>
    have c1 := atoiE_c s hs (fun v e => by rw [hv] at e; cases e)
    clear hp h e hv c3
    refine realcall_intro Tryz.func93 (by kernel_rfl) rfl (Nat.le_of_ble_eq_true (by kernel_rfl)) ?_
    simp only [Tryz.results93, Tryz.ntmps93]
    repeat' (first | (with_reducible first | refine awp_nili (ow := true) (fl := false) (p := .ifc (atoiRen.t 168) .undef) (b := false) (r := true) rfl Tryz.underlying94 (by simp) rfl rfl (by decide) (by decide) ?_ | refine awp_seq ?_ | refine awp_blockS ?_ | refine awp_blockC ?_ | refine awp_blockR ?_ | refine awp_skip ?_ | refine awp_ret ?_ | refine awp_exit ?_ | refine awp_region ?_ | refine awp_condM ?_ | refine And.intro ?_ ?_ | apply gQ_merge | apply gE_merge | exact EqV_w | exact EqE_w | exact EqV_ptr | exact EqE_ptr | exact EqV_msl | exact EqE_msl | exact EqV_agg | exact EqE_agg | exact EqV_fn | exact EqE_fn | exact EqV_gd | exact EqE_gd | refine gM_splitN ?_ ?_ | refine gM_split ?_ ?_ |  refine condM_splitDN ?_ ?_ | refine condM_splitD ?_ ?_ | refine condM_splitN ?_ ?_ | refine condM_split ?_ ?_ | refine condM_any ?_ ?_ | refine cw (c1) ?_ | intro _) | (simp [*]) | (refine cw_eq (c1) ?_ ?_; (· (simp [*]; done))))
end Go.Proofs.YtpjhpmpbdfeajaaGreatDoor

