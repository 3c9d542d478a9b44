/- Contracts of functions for this claim: lemmas alone. -/
import Derived.Test.YtpjhpmpbdfeajaaGreatDoorP318
import Derived.Test.YtpjhpmpbdfeajaaGreatDoorLz
set_option linter.unusedSimpArgs false
set_option linter.unusedVariables false
namespace Go.Proofs.YtpjhpmpbdfeajaaGreatDoor
open Go Go.Fi
set_option maxRecDepth 20000

/-! ### wide numbers: digits -/
theorem trim_snoc (d : Int) : ∀ l : List Int, trimD (l ++ [d]) = if d = 0 then trimD l else l ++ [d]
  | [] => by
    show (if d = 0 ∧ trimD [] = [] then [] else d :: trimD []) = if d = 0 then trimD [] else [d]
    by_cases h : d = 0 <;> simp [h, trimD]
  | x :: l => by
    show (if x = 0 ∧ trimD (l ++ [d]) = [] then [] else x :: trimD (l ++ [d])) = if d = 0 then trimD (x :: l) else x :: (l ++ [d])
    rw [trim_snoc d l]
    by_cases h : d = 0
    · simp only [if_pos h]; rfl
    · simp only [if_neg h]
      rw [if_neg (by simp)]
theorem trim_take (l : List Int) (k : Nat) (h : k < l.length) : trimD (l.take (k + 1)) = if nth l k = 0 then trimD (l.take k) else l.take (k + 1) := by
  rw [take_succ_nth l k h, trim_snoc]
theorem trimmed_c (l : List Int) (hl : l.length < 100000) : RealCall Tryz.prog 86 [.sl l.length (ints l)] (.sl (trimD l).length (ints (trimD l))) false := by
  generalize hT : trimD l = T
  have kT := keep hT
  clear hT
  refine realcall_intro Tryz.func86 (by kernel_rfl) rfl (Nat.le_of_ble_eq_true (by kernel_rfl)) ?_
  simp only [Tryz.results86, Tryz.ntmps86]
  repeat' (first | (with_reducible first | refine awp_seq ?_ | refine awp_blockS ?_ | refine awp_blockC ?_ | refine awp_blockR ?_ | refine awp_skip ?_ | refine awp_ret ?_ | refine awp_exit ?_ | refine awp_region ?_ | refine awp_condM ?_ | refine And.intro ?_ ?_ | apply gQ_merge | apply gE_merge | exact EqV_w | exact EqE_w | exact EqV_ptr | exact EqE_ptr | exact EqV_msl | exact EqE_msl | exact EqV_agg | exact EqE_agg | exact EqV_fn | exact EqE_fn | exact EqV_gd | exact EqE_gd | refine gM_splitN ?_ ?_ | refine gM_split ?_ ?_ |  refine condM_splitDN ?_ ?_ | refine condM_splitD ?_ ?_ | refine condM_splitN ?_ ?_ | refine condM_split ?_ ?_ | refine condM_any ?_ ?_ | intro _) | (simp [*]))
  refine awp_for3 (fun (k : Nat) => k ≤ l.length ∧ trimD (l.take k) = T) [0] (fun (k : Nat) => [(3, .w false false (.int .i64 k))]) [] (fun (k : Nat) => []) (fun (k : Nat) => k) (fun (j : Nat) => j ≤ l.length ∧ l.take j = T) [0] (fun (j : Nat) => [(3, .w false false (.int .i64 j))]) [] (fun (j : Nat) => []) (l.length) ⟨Nat.le_refl _, by rw [List.take_length]; exact kT⟩ (by simp) (by simp) (fun k hk => ?_) (fun j hf => ?_)
  · obtain ⟨hk, hj⟩ := hk
    clear kT
    cases k with
    | zero =>
      have kj : Keep (l.take 0 = T) := keep (by rw [← hj]; rfl)
      clear hj
      repeat' (first | (with_reducible first | refine awp_seq ?_ | refine awp_blockS ?_ | refine awp_blockC ?_ | refine awp_blockR ?_ | refine awp_skip ?_ | refine awp_ret ?_ | refine awp_exit ?_ | refine awp_region ?_ | refine awp_condM ?_ | refine And.intro ?_ ?_ | apply gQ_merge | apply gE_merge | exact EqV_w | exact EqE_w | exact EqV_ptr | exact EqE_ptr | exact EqV_msl | exact EqE_msl | exact EqV_agg | exact EqE_agg | exact EqV_fn | exact EqE_fn | exact EqV_gd | exact EqE_gd | refine gM_splitN ?_ ?_ | refine gM_split ?_ ?_ |  refine condM_splitDN ?_ ?_ | refine condM_splitD ?_ ?_ | refine condM_splitN ?_ ?_ | refine condM_split ?_ ?_ | refine condM_any ?_ ?_ | intro _) | (simp [*]))
      all_goals (refine finW_intro 0 ?_ ?_; (· exact ⟨Nat.zero_le _, kj⟩); (refine le_of ?_ ?_ <;> first | trivial | (simp [*]; done)))
    | succ k =>
      have hlt : k < l.length := by omega
      have hI : ((k + 1 : Nat) : Int) - 1 = (k : Int) := by omega
      have hpI : (0 : Int) < ((k + 1 : Nat) : Int) := by omega
      rw [trim_take l k hlt] at hj
      by_cases hz : nth l k = 0
      · rw [if_pos hz] at hj
        have kj := keep hj
        clear hj
        repeat' (first | (with_reducible first | refine awp_seq ?_ | refine awp_blockS ?_ | refine awp_blockC ?_ | refine awp_blockR ?_ | refine awp_skip ?_ | refine awp_ret ?_ | refine awp_exit ?_ | refine awp_region ?_ | refine awp_condM ?_ | refine And.intro ?_ ?_ | apply gQ_merge | apply gE_merge | exact EqV_w | exact EqE_w | exact EqV_ptr | exact EqE_ptr | exact EqV_msl | exact EqE_msl | exact EqV_agg | exact EqE_agg | exact EqV_fn | exact EqE_fn | exact EqV_gd | exact EqE_gd | refine gM_splitN ?_ ?_ | refine gM_split ?_ ?_ |  refine condM_splitDN ?_ ?_ | refine condM_splitD ?_ ?_ | refine condM_splitN ?_ ?_ | refine condM_split ?_ ?_ | refine condM_any ?_ ?_ | intro _) | (simp [*, hlt, hz, hI, hpI]))
        all_goals try first | exact inI64 (by omega) (by omega) | omega
        all_goals (refine loopK_normal _ _ _ _ _ k _ ?_ (by first | omega | (dsimp only; omega) | (simp; omega)) ?_; (· exact ⟨by omega, kj⟩); (refine le_of ?_ ?_ <;> first | trivial | (simp [*]; done)))
      · rw [if_neg hz] at hj
        have kj := keep hj
        clear hj
        repeat' (first | (with_reducible first | refine awp_seq ?_ | refine awp_blockS ?_ | refine awp_blockC ?_ | refine awp_blockR ?_ | refine awp_skip ?_ | refine awp_ret ?_ | refine awp_exit ?_ | refine awp_region ?_ | refine awp_condM ?_ | refine And.intro ?_ ?_ | apply gQ_merge | apply gE_merge | exact EqV_w | exact EqE_w | exact EqV_ptr | exact EqE_ptr | exact EqV_msl | exact EqE_msl | exact EqV_agg | exact EqE_agg | exact EqV_fn | exact EqE_fn | exact EqV_gd | exact EqE_gd | refine gM_splitN ?_ ?_ | refine gM_split ?_ ?_ |  refine condM_splitDN ?_ ?_ | refine condM_splitD ?_ ?_ | refine condM_splitN ?_ ?_ | refine condM_split ?_ ?_ | refine condM_any ?_ ?_ | intro _) | (simp [*, hlt, hz, hI, hpI]))
        all_goals try first | exact inI64 (by omega) (by omega) | omega
        all_goals (refine finW_intro (k + 1) ?_ ?_; (· exact ⟨by omega, kj⟩); (refine le_of ?_ ?_ <;> first | trivial | (simp [*]; done)))
  · obtain ⟨h1, h2⟩ := hf
    subst h2
    have hlen : (l.take j).length = j := by simp [Nat.min_eq_left h1]
    clear kT
    rw [hlen]
    repeat' (first | (with_reducible first | refine awp_seq ?_ | refine awp_blockS ?_ | refine awp_blockC ?_ | refine awp_blockR ?_ | refine awp_skip ?_ | refine awp_ret ?_ | refine awp_exit ?_ | refine awp_region ?_ | refine awp_condM ?_ | refine And.intro ?_ ?_ | apply gQ_merge | apply gE_merge | exact EqV_w | exact EqE_w | exact EqV_ptr | exact EqE_ptr | exact EqV_msl | exact EqE_msl | exact EqV_agg | exact EqE_agg | exact EqV_fn | exact EqE_fn | exact EqV_gd | exact EqE_gd | refine gM_splitN ?_ ?_ | refine gM_split ?_ ?_ |  refine condM_splitDN ?_ ?_ | refine condM_splitD ?_ ?_ | refine condM_splitN ?_ ?_ | refine condM_split ?_ ?_ | refine condM_any ?_ ?_ | intro _) | (simp [*, h1]))
    all_goals try first | exact inI64 (by omega) (by omega) | omega
theorem digit_c (l : List Int) (hl : l.length < 100000) (i : Nat) : RealCall Tryz.prog 120 [.sl l.length (ints l), .int .i64 (i : Int)] (.int .i64 (dg l i)) true := by
  by_cases h : i < l.length
  · have hI : (i : Int) < (l.length : Int) := by omega
    have e : dg l i = nth l i := by simp [dg, nth, List.getD_eq_getElem?_getD]
    rw [e]
    refine realcall_intro Tryz.func120 (by kernel_rfl) rfl (Nat.le_of_ble_eq_true (by kernel_rfl)) ?_
    simp only [Tryz.results120, Tryz.ntmps120]
    repeat' (first | (with_reducible first | refine awp_seq ?_ | refine awp_blockS ?_ | refine awp_blockC ?_ | refine awp_blockR ?_ | refine awp_skip ?_ | refine awp_ret ?_ | refine awp_exit ?_ | refine awp_region ?_ | refine awp_condM ?_ | refine And.intro ?_ ?_ | apply gQ_merge | apply gE_merge | exact EqV_w | exact EqE_w | exact EqV_ptr | exact EqE_ptr | exact EqV_msl | exact EqE_msl | exact EqV_agg | exact EqE_agg | exact EqV_fn | exact EqE_fn | exact EqV_gd | exact EqE_gd | refine gM_splitN ?_ ?_ | refine gM_split ?_ ?_ |  refine condM_splitDN ?_ ?_ | refine condM_splitD ?_ ?_ | refine condM_splitN ?_ ?_ | refine condM_split ?_ ?_ | refine condM_any ?_ ?_ | intro _) | (simp [*, h, hI]))
  · have hI : ¬ (i : Int) < (l.length : Int) := by omega
    rw [dg_out (by omega)]
    refine realcall_intro Tryz.func120 (by kernel_rfl) rfl (Nat.le_of_ble_eq_true (by kernel_rfl)) ?_
    simp only [Tryz.results120, Tryz.ntmps120]
    repeat' (first | (with_reducible first | refine awp_seq ?_ | refine awp_blockS ?_ | refine awp_blockC ?_ | refine awp_blockR ?_ | refine awp_skip ?_ | refine awp_ret ?_ | refine awp_exit ?_ | refine awp_region ?_ | refine awp_condM ?_ | refine And.intro ?_ ?_ | apply gQ_merge | apply gE_merge | exact EqV_w | exact EqE_w | exact EqV_ptr | exact EqE_ptr | exact EqV_msl | exact EqE_msl | exact EqV_agg | exact EqE_agg | exact EqV_fn | exact EqE_fn | exact EqV_gd | exact EqE_gd | refine gM_splitN ?_ ?_ | refine gM_split ?_ ?_ |  refine condM_splitDN ?_ ?_ | refine condM_splitD ?_ ?_ | refine condM_splitN ?_ ?_ | refine condM_split ?_ ?_ | refine condM_any ?_ ?_ | intro _) | (simp [*, hI]))
theorem wideOf_c (s : Int) (l : List Int) (hl : l.length < 100000) : RealCall Tryz.prog 45 [.int .i64 s, .sl l.length (ints l)] (.agg [.int .i64 (if trimD l = [] then 0 else s), .sl (trimD l).length (ints (trimD l))]) false := by
  have c1 := trimmed_c l hl
  by_cases h : trimD l = []
  · rw [h] at c1 ⊢
    rw [if_pos rfl]
    refine realcall_intro Tryz.func45 (by kernel_rfl) rfl (Nat.le_of_ble_eq_true (by kernel_rfl)) ?_
    simp only [Tryz.results45, Tryz.ntmps45]
    repeat' (first | (with_reducible first | refine awp_seq ?_ | refine awp_blockS ?_ | refine awp_blockC ?_ | refine awp_blockR ?_ | refine awp_skip ?_ | refine awp_ret ?_ | refine awp_exit ?_ | refine awp_region ?_ | refine awp_condM ?_ | refine And.intro ?_ ?_ | apply gQ_merge | apply gE_merge | exact EqV_w | exact EqE_w | exact EqV_ptr | exact EqE_ptr | exact EqV_msl | exact EqE_msl | exact EqV_agg | exact EqE_agg | exact EqV_fn | exact EqE_fn | exact EqV_gd | exact EqE_gd | refine gM_splitN ?_ ?_ | refine gM_split ?_ ?_ |  refine condM_splitDN ?_ ?_ | refine condM_splitD ?_ ?_ | refine condM_splitN ?_ ?_ | refine condM_split ?_ ?_ | refine condM_any ?_ ?_ | refine cw (c1) ?_ | intro _) | (simp [*]) | (refine cw_eq (c1) ?_ ?_; (· (simp [*]; done))))
  · rw [if_neg h]
    have hn : ¬ ((trimD l).length : Int) = 0 := fun e => h (List.eq_nil_of_length_eq_zero (by omega))
    have hn2 : ¬ (trimD l).length = 0 := by omega
    generalize trimD l = T at *
    refine realcall_intro Tryz.func45 (by kernel_rfl) rfl (Nat.le_of_ble_eq_true (by kernel_rfl)) ?_
    simp only [Tryz.results45, Tryz.ntmps45]
    repeat' (first | (with_reducible first | refine awp_seq ?_ | refine awp_blockS ?_ | refine awp_blockC ?_ | refine awp_blockR ?_ | refine awp_skip ?_ | refine awp_ret ?_ | refine awp_exit ?_ | refine awp_region ?_ | refine awp_condM ?_ | refine And.intro ?_ ?_ | apply gQ_merge | apply gE_merge | exact EqV_w | exact EqE_w | exact EqV_ptr | exact EqE_ptr | exact EqV_msl | exact EqE_msl | exact EqV_agg | exact EqE_agg | exact EqV_fn | exact EqE_fn | exact EqV_gd | exact EqE_gd | refine gM_splitN ?_ ?_ | refine gM_split ?_ ?_ |  refine condM_splitDN ?_ ?_ | refine condM_splitD ?_ ?_ | refine condM_splitN ?_ ?_ | refine condM_split ?_ ?_ | refine condM_any ?_ ?_ | refine cw (c1) ?_ | intro _) | (simp [*, h, hn, hn2]) | (refine cw_eq (c1) ?_ ?_; (· (simp [*]; done))))
end Go.Proofs.YtpjhpmpbdfeajaaGreatDoor
namespace Go.Proofs.YtpjhpmpbdfeajaaGreatDoor
open Go Go.Fi
set_option maxRecDepth 20000

/-! ### wide numbers out of small ones; comparing, adding, subtracting digits -/
def sgZ (z : Int) : Int := if z = 0 then 0 else if z < 0 then -1 else 1
def wideP (z : Int) : List PV := [.int .i64 (sgZ z), .sl (digs z.natAbs).length (ints (digs z.natAbs))]
theorem trim_digs (n : Nat) : trimD (digs n) = digs n := by
  rw [trimD_digs (okD_digs n), valD_digs]; rfl
theorem digs_short {n : Nat} (h : n ≤ 9223372036854775808) : (digs n).length ≤ 3 := digs_len (by omega)
set_option maxHeartbeats 4000000 in
theorem wideInt_c (z : Int) (h0 : -1000000000000000000 ≤ z) (h1 : z ≤ 1000000000000000000) : RealCall Tryz.prog 13 [.int .i64 z] (.agg (wideP z)) false := by
  have hl := digs_short (n := z.natAbs) (by omega)
  have c1 := fun s => wideOf_c s (digs z.natAbs) (by omega)
  rw [trim_digs] at c1
  have hs : sgZ z = if digs z.natAbs = [] then 0 else (if z < 0 then -1 else 1) := by
    unfold sgZ
    by_cases h : z = 0
    · subst h; rw [if_pos rfl]; simp [digs_zero]
    · have hne : ¬ digs z.natAbs = [] := fun e => h (by have := digs_eq_nil.1 e; omega)
      rw [if_neg h, if_neg hne]
  unfold wideP
  rw [hs]
  clear hs
  have e3 : ∀ n : Nat, (n : Int).tmod 1000000000 = ((n % 1000000000 : Nat) : Int) := fun n => rfl
  have e4 : ∀ n : Nat, (n : Int).tdiv 1000000000 = ((n / 1000000000 : Nat) : Int) := fun n => rfl
  have main : ∀ (s : Int) (n : Nat), (s = if z < 0 then -1 else 1) → n = z.natAbs → True := fun _ _ _ _ => trivial
  clear main
  by_cases hz : z < 0
  · have c := c1 (-1)
    rw [if_pos hz]
    obtain ⟨n, hn⟩ : ∃ n : Nat, z.natAbs = n := ⟨_, rfl⟩
    have hzn : -z = (n : Int) := by omega
    have hnb : (n : Int) ≤ 1000000000000000000 := by omega
    rw [hn] at c hl ⊢
    generalize hD : digs n = D at *
    have kD := keep hD
    clear hD c1 hn
    refine realcall_intro Tryz.func13 (by kernel_rfl) rfl (Nat.le_of_ble_eq_true (by kernel_rfl)) ?_
    simp only [Tryz.results13, Tryz.ntmps13]
    repeat' (first | (with_reducible first | refine awp_seq ?_ | refine awp_blockS ?_ | refine awp_blockC ?_ | refine awp_blockR ?_ | refine awp_skip ?_ | refine awp_ret ?_ | refine awp_exit ?_ | refine awp_region ?_ | refine awp_condM ?_ | refine And.intro ?_ ?_ | apply gQ_merge | apply gE_merge | exact EqV_w | exact EqE_w | exact EqV_ptr | exact EqE_ptr | exact EqV_msl | exact EqE_msl | exact EqV_agg | exact EqE_agg | exact EqV_fn | exact EqE_fn | exact EqV_gd | exact EqE_gd | refine gM_splitN ?_ ?_ | refine gM_split ?_ ?_ |  refine condM_splitDN ?_ ?_ | refine condM_splitD ?_ ?_ | refine condM_splitN ?_ ?_ | refine condM_split ?_ ?_ | refine condM_any ?_ ?_ | intro _) | (simp [*, hz, hzn]))
    all_goals try first | exact inI64 (by omega) (by omega) | omega
    refine awp_for4 2 (fun (x : List Int × Nat) => x.1 ++ digs x.2 = D ∧ x.2 ≤ n) [2, 3] (fun (x : List Int × Nat) => [(0, .w false false (.int .i64 (x.2 : Int))), (4, .msl 1 x.1.length 1 0 x.1.length)]) [0] (fun (x : List Int × Nat) => [(1, iA x.1)]) (fun (x : List Int × Nat) => x.2) (fun (_u : Unit) => True) [2, 3] (fun (_u : Unit) => [(4, .w true false (.sl D.length (ints D)))]) [0] (fun (_u : Unit) => []) (([], n)) ⟨(show digs n = D from kD), Nat.le_refl _⟩ (le_gen [] (by simp) (by simp)) (fun x hk => ?_) (fun _u hf => ?_)
    · obtain ⟨x1, x2⟩ := x
      obtain ⟨hj, hle⟩ := hk
      dsimp only at hj hle
      clear kD
      by_cases hp : x2 = 0
      · subst hp
        rw [digs_zero, List.append_nil] at hj
        subst hj
        clear c
        repeat' (first | (with_reducible first | refine awp_seq ?_ | refine awp_blockS ?_ | refine awp_blockC ?_ | refine awp_blockR ?_ | refine awp_skip ?_ | refine awp_ret ?_ | refine awp_exit ?_ | refine awp_region ?_ | refine awp_condM ?_ | refine And.intro ?_ ?_ | apply gQ_merge | apply gE_merge | exact EqV_w | exact EqE_w | exact EqV_ptr | exact EqE_ptr | exact EqV_msl | exact EqE_msl | exact EqV_agg | exact EqE_agg | exact EqV_fn | exact EqE_fn | exact EqV_gd | exact EqE_gd | refine gM_splitN ?_ ?_ | refine gM_split ?_ ?_ |  refine condM_splitDN ?_ ?_ | refine condM_splitD ?_ ?_ | refine condM_splitN ?_ ?_ | refine condM_split ?_ ?_ | refine condM_any ?_ ?_ | intro _) | (simp [*]))
        all_goals (refine finW_intro () ?_ ?_; (· trivial); (refine le_gen [1] ?_ ?_ <;> first | trivial | (simp [*]; done)))
      · have hpI : (0 : Int) < (x2 : Int) := by omega
        have hpos : 0 < x2 := by omega
        have hlen : x1.length ≤ D.length := by rw [← hj]; simp
        rw [digs_pos hpos] at hj
        have kj : Keep ((x1 ++ [((x2 % 1000000000 : Nat) : Int)]) ++ digs (x2 / 1000000000) = D) := keep (by rw [List.append_assoc]; exact hj)
        have q1 := Nat.mod_lt x2 (show 0 < 1000000000 by decide)
        have q2 := Nat.div_le_self x2 1000000000
        have q3 := Nat.div_lt_self hpos (show 1 < 1000000000 by decide)
        have g3 := e3 x2
        have g4 := e4 x2
        clear hj c e3 e4
        generalize x2 % 1000000000 = r at *
        generalize x2 / 1000000000 = q at *
        repeat' (first | (with_reducible first | refine awp_seq ?_ | refine awp_blockS ?_ | refine awp_blockC ?_ | refine awp_blockR ?_ | refine awp_skip ?_ | refine awp_ret ?_ | refine awp_exit ?_ | refine awp_region ?_ | refine awp_condM ?_ | refine And.intro ?_ ?_ | apply gQ_merge | apply gE_merge | exact EqV_w | exact EqE_w | exact EqV_ptr | exact EqE_ptr | exact EqV_msl | exact EqE_msl | exact EqV_agg | exact EqE_agg | exact EqV_fn | exact EqE_fn | exact EqV_gd | exact EqE_gd | refine gM_splitN ?_ ?_ | refine gM_split ?_ ?_ |  refine condM_splitDN ?_ ?_ | refine condM_splitD ?_ ?_ | refine condM_splitN ?_ ?_ | refine condM_split ?_ ?_ | refine condM_any ?_ ?_ | intro _) | (simp [*, hpI, hp, g3, g4]))
        all_goals try first | exact inI64 (by omega) (by omega) | omega
        all_goals (refine loopK_normal _ _ _ _ _ (x1 ++ [(r : Int)], q) _ ?_ (by first | omega | (dsimp only; omega) | (simp; omega)) ?_; (· exact ⟨kj, by dsimp only; omega⟩); (refine le_gen [] ?_ ?_ <;> first | trivial | (simp [*]; done)))
    · clear kD
      repeat' (first | (with_reducible first | refine awp_seq ?_ | refine awp_blockS ?_ | refine awp_blockC ?_ | refine awp_blockR ?_ | refine awp_skip ?_ | refine awp_ret ?_ | refine awp_exit ?_ | refine awp_region ?_ | refine awp_condM ?_ | refine And.intro ?_ ?_ | apply gQ_merge | apply gE_merge | exact EqV_w | exact EqE_w | exact EqV_ptr | exact EqE_ptr | exact EqV_msl | exact EqE_msl | exact EqV_agg | exact EqE_agg | exact EqV_fn | exact EqE_fn | exact EqV_gd | exact EqE_gd | refine gM_splitN ?_ ?_ | refine gM_split ?_ ?_ |  refine condM_splitDN ?_ ?_ | refine condM_splitD ?_ ?_ | refine condM_splitN ?_ ?_ | refine condM_split ?_ ?_ | refine condM_any ?_ ?_ | refine cw (c) ?_ | intro _) | (simp [*]) | (refine cw_eq (c) ?_ ?_; (· (simp [*]; done))))
  · have c := c1 1
    rw [if_neg hz]
    obtain ⟨n, hn⟩ : ∃ n : Nat, z.natAbs = n := ⟨_, rfl⟩
    have hzn : z = (n : Int) := by omega
    subst hzn
    rw [hn] at c hl ⊢
    generalize hD : digs n = D at *
    have kD := keep hD
    clear hD c1 hn
    refine realcall_intro Tryz.func13 (by kernel_rfl) rfl (Nat.le_of_ble_eq_true (by kernel_rfl)) ?_
    simp only [Tryz.results13, Tryz.ntmps13]
    repeat' (first | (with_reducible first | refine awp_seq ?_ | refine awp_blockS ?_ | refine awp_blockC ?_ | refine awp_blockR ?_ | refine awp_skip ?_ | refine awp_ret ?_ | refine awp_exit ?_ | refine awp_region ?_ | refine awp_condM ?_ | refine And.intro ?_ ?_ | apply gQ_merge | apply gE_merge | exact EqV_w | exact EqE_w | exact EqV_ptr | exact EqE_ptr | exact EqV_msl | exact EqE_msl | exact EqV_agg | exact EqE_agg | exact EqV_fn | exact EqE_fn | exact EqV_gd | exact EqE_gd | refine gM_splitN ?_ ?_ | refine gM_split ?_ ?_ |  refine condM_splitDN ?_ ?_ | refine condM_splitD ?_ ?_ | refine condM_splitN ?_ ?_ | refine condM_split ?_ ?_ | refine condM_any ?_ ?_ | intro _) | (simp [*, hz]))
    all_goals try first | exact inI64 (by omega) (by omega) | omega
    refine awp_for4 2 (fun (x : List Int × Nat) => x.1 ++ digs x.2 = D ∧ x.2 ≤ n) [2, 3] (fun (x : List Int × Nat) => [(0, .w false false (.int .i64 (x.2 : Int))), (4, .msl 1 x.1.length 1 0 x.1.length)]) [0] (fun (x : List Int × Nat) => [(1, iA x.1)]) (fun (x : List Int × Nat) => x.2) (fun (_u : Unit) => True) [2, 3] (fun (_u : Unit) => [(4, .w true false (.sl D.length (ints D)))]) [0] (fun (_u : Unit) => []) (([], n)) ⟨(show digs n = D from kD), Nat.le_refl _⟩ (le_gen [] (by simp) (by simp)) (fun x hk => ?_) (fun _u hf => ?_)
    · obtain ⟨x1, x2⟩ := x
      obtain ⟨hj, hle⟩ := hk
      dsimp only at hj hle
      clear kD
      by_cases hp : x2 = 0
      · subst hp
        rw [digs_zero, List.append_nil] at hj
        subst hj
        clear c
        repeat' (first | (with_reducible first | refine awp_seq ?_ | refine awp_blockS ?_ | refine awp_blockC ?_ | refine awp_blockR ?_ | refine awp_skip ?_ | refine awp_ret ?_ | refine awp_exit ?_ | refine awp_region ?_ | refine awp_condM ?_ | refine And.intro ?_ ?_ | apply gQ_merge | apply gE_merge | exact EqV_w | exact EqE_w | exact EqV_ptr | exact EqE_ptr | exact EqV_msl | exact EqE_msl | exact EqV_agg | exact EqE_agg | exact EqV_fn | exact EqE_fn | exact EqV_gd | exact EqE_gd | refine gM_splitN ?_ ?_ | refine gM_split ?_ ?_ |  refine condM_splitDN ?_ ?_ | refine condM_splitD ?_ ?_ | refine condM_splitN ?_ ?_ | refine condM_split ?_ ?_ | refine condM_any ?_ ?_ | intro _) | (simp [*]))
        all_goals (refine finW_intro () ?_ ?_; (· trivial); (refine le_gen [1] ?_ ?_ <;> first | trivial | (simp [*]; done)))
      · have hpI : (0 : Int) < (x2 : Int) := by omega
        have hpos : 0 < x2 := by omega
        have hlen : x1.length ≤ D.length := by rw [← hj]; simp
        rw [digs_pos hpos] at hj
        have kj : Keep ((x1 ++ [((x2 % 1000000000 : Nat) : Int)]) ++ digs (x2 / 1000000000) = D) := keep (by rw [List.append_assoc]; exact hj)
        have q1 := Nat.mod_lt x2 (show 0 < 1000000000 by decide)
        have q2 := Nat.div_le_self x2 1000000000
        have q3 := Nat.div_lt_self hpos (show 1 < 1000000000 by decide)
        have g3 := e3 x2
        have g4 := e4 x2
        clear hj c e3 e4
        generalize x2 % 1000000000 = r at *
        generalize x2 / 1000000000 = q at *
        repeat' (first | (with_reducible first | refine awp_seq ?_ | refine awp_blockS ?_ | refine awp_blockC ?_ | refine awp_blockR ?_ | refine awp_skip ?_ | refine awp_ret ?_ | refine awp_exit ?_ | refine awp_region ?_ | refine awp_condM ?_ | refine And.intro ?_ ?_ | apply gQ_merge | apply gE_merge | exact EqV_w | exact EqE_w | exact EqV_ptr | exact EqE_ptr | exact EqV_msl | exact EqE_msl | exact EqV_agg | exact EqE_agg | exact EqV_fn | exact EqE_fn | exact EqV_gd | exact EqE_gd | refine gM_splitN ?_ ?_ | refine gM_split ?_ ?_ |  refine condM_splitDN ?_ ?_ | refine condM_splitD ?_ ?_ | refine condM_splitN ?_ ?_ | refine condM_split ?_ ?_ | refine condM_any ?_ ?_ | intro _) | (simp [*, hpI, hp, g3, g4]))
        all_goals try first | exact inI64 (by omega) (by omega) | omega
        all_goals (refine loopK_normal _ _ _ _ _ (x1 ++ [(r : Int)], q) _ ?_ (by first | omega | (dsimp only; omega) | (simp; omega)) ?_; (· exact ⟨kj, by dsimp only; omega⟩); (refine le_gen [] ?_ ?_ <;> first | trivial | (simp [*]; done)))
    · clear kD
      repeat' (first | (with_reducible first | refine awp_seq ?_ | refine awp_blockS ?_ | refine awp_blockC ?_ | refine awp_blockR ?_ | refine awp_skip ?_ | refine awp_ret ?_ | refine awp_exit ?_ | refine awp_region ?_ | refine awp_condM ?_ | refine And.intro ?_ ?_ | apply gQ_merge | apply gE_merge | exact EqV_w | exact EqE_w | exact EqV_ptr | exact EqE_ptr | exact EqV_msl | exact EqE_msl | exact EqV_agg | exact EqE_agg | exact EqV_fn | exact EqE_fn | exact EqV_gd | exact EqE_gd | refine gM_splitN ?_ ?_ | refine gM_split ?_ ?_ |  refine condM_splitDN ?_ ?_ | refine condM_splitD ?_ ?_ | refine condM_splitN ?_ ?_ | refine condM_split ?_ ?_ | refine condM_any ?_ ?_ | refine cw (c) ?_ | intro _) | (simp [*]) | (refine cw_eq (c) ?_ ?_; (· (simp [*]; done))))
end Go.Proofs.YtpjhpmpbdfeajaaGreatDoor

