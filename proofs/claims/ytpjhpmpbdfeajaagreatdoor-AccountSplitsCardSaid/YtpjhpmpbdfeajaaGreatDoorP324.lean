/- Contracts of functions for this claim: lemmas alone. -/
import Derived.Test.YtpjhpmpbdfeajaaGreatDoorP322
set_option linter.unusedSimpArgs false
set_option linter.unusedVariables false
namespace Go.Proofs.YtpjhpmpbdfeajaaGreatDoor
open Go Go.Fi
set_option maxRecDepth 20000

/-! ### digits compared -/
theorem digs_big : ∀ {k : Nat} {n : Nat}, (digs n).length = k + 1 → 1000000000 ^ k ≤ n := fun {k} => by
  induction k with
  | zero =>
    intro n h
    rw [Nat.pow_zero]
    by_cases h0 : n = 0
    · subst h0; rw [digs_zero] at h; cases h
    · omega
  | succ k ih =>
    intro n h
    by_cases h0 : n = 0
    · subst h0; rw [digs_zero] at h; cases h
    · rw [digs_pos (by omega), List.length_cons] at h
      have := ih (n := n / 1000000000) (by omega)
      rw [Nat.pow_succ]
      omega
theorem digs_shorter {m n : Nat} (h : (digs m).length < (digs n).length) : m < n := by
  obtain ⟨k, hk⟩ : ∃ k, (digs n).length = k + 1 := ⟨(digs n).length - 1, by omega⟩
  have h1 := digs_big hk
  have h2 := valD_bd (okD_digs m)
  rw [valD_digs] at h2
  have h3 : (m : Int) < ((1000000000 ^ (digs m).length : Nat) : Int) := by rw [Int.natCast_pow]; exact h2
  have h4 : 1000000000 ^ (digs m).length ≤ 1000000000 ^ k := Nat.pow_le_pow_right (by decide) (by omega)
  omega
theorem valD_less {a b : List Int} (ha : okD a) (hb : okD b) (hl : a.length = b.length) {k : Nat} (hk : k < a.length) (hd : a.drop (k + 1) = b.drop (k + 1)) (hlt : nth a k < nth b k) : valD a < valD b := by
  have e : ∀ l : List Int, k < l.length → valD l = valD (l.take k) + nth l k * PB k + PB (k + 1) * valD (l.drop (k + 1)) := fun l hkl => by
    have h1 := valD_app (l.drop (k + 1)) (l.take (k + 1))
    rw [List.take_append_drop, valD_take, List.length_take, Nat.min_eq_left hkl] at h1
    have hdg : dg l k = nth l k := by simp [dg, nth, List.getD_eq_getElem?_getD]
    rw [h1, hdg]
  have e1 := e a hk
  have e2 := e b (by omega)
  rw [hd] at e1
  have hoa : okD (a.take k) := fun d h => ha d (List.mem_of_mem_take h)
  have hob : okD (b.take k) := fun d h => hb d (List.mem_of_mem_take h)
  have b1 := valD_bd hoa
  have b2 := valD_nonneg hob
  rw [List.length_take, Nat.min_eq_left (Nat.le_of_lt hk)] at b1
  have b3 : (nth a k + 1) * PB k ≤ nth b k * PB k := Int.mul_le_mul_of_nonneg_right (by omega) (Int.le_of_lt (PB_pos k))
  rw [Int.add_mul, Int.one_mul] at b3
  change valD (a.take k) < PB k at b1
  omega
def cmpZ (m n : Nat) : Int := if m < n then -1 else if n < m then 1 else 0
set_option maxHeartbeats 4000000 in
theorem cmpD_c (m n : Nat) (hm : (digs m).length < 100000) (hn : (digs n).length < 100000) : RealCall Tryz.prog 84 [.sl (digs m).length (ints (digs m)), .sl (digs n).length (ints (digs n))] (.int .i64 (cmpZ m n)) true := by
  have oa := okD_digs m
  have ob := okD_digs n
  have va := valD_digs m
  have vb := valD_digs n
  by_cases hl : (digs m).length = (digs n).length
  · have hless : ∀ k, k < (digs m).length → (digs m).drop (k + 1) = (digs n).drop (k + 1) → nth (digs m) k < nth (digs n) k → cmpZ m n = -1 := fun k hk hd h => by
      have := valD_less oa ob hl hk hd h
      rw [va, vb] at this
      unfold cmpZ; rw [if_pos (by omega)]
    have hmore : ∀ k, k < (digs m).length → (digs m).drop (k + 1) = (digs n).drop (k + 1) → nth (digs n) k < nth (digs m) k → cmpZ m n = 1 := fun k hk hd h => by
      have := valD_less ob oa hl.symm (by omega) hd.symm h
      rw [va, vb] at this
      unfold cmpZ; rw [if_neg (by omega), if_pos (by omega)]
    have hsame : (digs m) = (digs n) → cmpZ m n = 0 := fun h => by
      rw [h, vb] at va
      unfold cmpZ; rw [if_neg (by omega), if_neg (by omega)]
    generalize cmpZ m n = C at *
    clear oa ob va vb
    generalize digs m = a at *
    generalize digs n = b at *
    have k1 := keep hless
    have k2 := keep hmore
    have k3 := keep hsame
    clear hless hmore hsame
    have hlI : (a.length : Int) = (b.length : Int) := by omega
    refine realcall_intro Tryz.func84 (by kernel_rfl) rfl (Nat.le_of_ble_eq_true (by kernel_rfl)) ?_
    simp only [Tryz.results84, Tryz.ntmps84]
    repeat' (first | (with_reducible first | refine awp_seq ?_ | refine awp_blockS ?_ | refine awp_blockC ?_ | refine awp_blockR ?_ | refine awp_skip ?_ | refine awp_ret ?_ | refine awp_exit ?_ | refine awp_region ?_ | refine awp_regionD (id := 8) 9 mixed (by decide +kernel) ?_ | refine awp_regionD (id := 10) 9 mixed (by decide +kernel) ?_ | refine awp_condM ?_ | refine And.intro ?_ ?_ | apply gQ_merge | apply gE_merge | exact EqV_w | exact EqE_w | exact EqV_ptr | exact EqE_ptr | exact EqV_msl | exact EqE_msl | exact EqV_agg | exact EqE_agg | exact EqV_fn | exact EqE_fn | exact EqV_gd | exact EqE_gd | refine gM_splitN ?_ ?_ | refine gM_split ?_ ?_ |  refine condM_splitDN ?_ ?_ | refine condM_splitD ?_ ?_ | refine condM_splitN ?_ ?_ | refine condM_split ?_ ?_ | refine condM_any ?_ ?_ | intro _) | (simp [*, hl, hlI]))
    all_goals try first | exact inI64 (by omega) (by omega) | omega
    refine awp_for3 (fun (k : Nat) => k ≤ a.length ∧ a.drop k = b.drop k) [0, 1] (fun (k : Nat) => [(5, .w false false (.int .i64 ((k : Int) - 1)))]) [] (fun (k : Nat) => []) (fun (k : Nat) => k) (fun (_u : Unit) => a = b) [] (fun (_u : Unit) => []) [] (fun (_u : Unit) => []) (b.length) ⟨by omega, by rw [← hl, List.drop_length, hl, List.drop_length]⟩ (by simp) (by simp) (fun k hk => ?_) (fun _u hf => ?_)
    · obtain ⟨hk, hj⟩ := hk
      cases k with
      | zero =>
        have kj : Keep (a = b) := keep (by simpa using hj)
        clear k1 k2 k3 hj
        repeat' (first | (with_reducible first | refine awp_seq ?_ | refine awp_blockS ?_ | refine awp_blockC ?_ | refine awp_blockR ?_ | refine awp_skip ?_ | refine awp_ret ?_ | refine awp_exit ?_ | refine awp_region ?_ | refine awp_regionD (id := 8) 9 mixed (by decide +kernel) ?_ | refine awp_regionD (id := 10) 9 mixed (by decide +kernel) ?_ | refine awp_condM ?_ | refine And.intro ?_ ?_ | apply gQ_merge | apply gE_merge | exact EqV_w | exact EqE_w | exact EqV_ptr | exact EqE_ptr | exact EqV_msl | exact EqE_msl | exact EqV_agg | exact EqE_agg | exact EqV_fn | exact EqE_fn | exact EqV_gd | exact EqE_gd | refine gM_splitN ?_ ?_ | refine gM_split ?_ ?_ |  refine condM_splitDN ?_ ?_ | refine condM_splitD ?_ ?_ | refine condM_splitN ?_ ?_ | refine condM_split ?_ ?_ | refine condM_any ?_ ?_ | intro _) | (simp [*]))
        all_goals (refine finW_intro () ?_ ?_; (· exact kj); (refine le_of ?_ ?_ <;> first | trivial | (simp [*]; done)))
      | succ k =>
        have hlt : k < a.length := by omega
        have hlt2 : k < b.length := by omega
        have hI : ((k + 1 : Nat) : Int) - 1 = (k : Int) := by omega
        rcases Int.lt_trichotomy (nth a k) (nth b k) with hq | hq | hq
        · have hC := (show ∀ k, k < a.length → a.drop (k + 1) = b.drop (k + 1) → nth a k < nth b k → C = -1 from k1) k hlt hj hq
          subst hC
          clear k1 k2 k3 hj
          rw [hI]
          repeat' (first | (with_reducible first | refine awp_seq ?_ | refine awp_blockS ?_ | refine awp_blockC ?_ | refine awp_blockR ?_ | refine awp_skip ?_ | refine awp_ret ?_ | refine awp_exit ?_ | refine awp_region ?_ | refine awp_regionD (id := 8) 9 mixed (by decide +kernel) ?_ | refine awp_regionD (id := 10) 9 mixed (by decide +kernel) ?_ | refine awp_condM ?_ | refine And.intro ?_ ?_ | apply gQ_merge | apply gE_merge | exact EqV_w | exact EqE_w | exact EqV_ptr | exact EqE_ptr | exact EqV_msl | exact EqE_msl | exact EqV_agg | exact EqE_agg | exact EqV_fn | exact EqE_fn | exact EqV_gd | exact EqE_gd | refine gM_splitN ?_ ?_ | refine gM_split ?_ ?_ |  refine condM_splitDN ?_ ?_ | refine condM_splitD ?_ ?_ | refine condM_splitN ?_ ?_ | refine condM_split ?_ ?_ | refine condM_any ?_ ?_ | intro _) | (simp [*, hlt, hlt2, hq]))
          all_goals try first | exact inI64 (by omega) (by omega) | omega
        · have kj : Keep (a.drop k = b.drop k) := keep (by rw [drop_nth a k hlt, drop_nth b k hlt2, hq, hj])
          clear k1 k2 k3 hj
          rw [hI]
          repeat' (first | (with_reducible first | refine awp_seq ?_ | refine awp_blockS ?_ | refine awp_blockC ?_ | refine awp_blockR ?_ | refine awp_skip ?_ | refine awp_ret ?_ | refine awp_exit ?_ | refine awp_region ?_ | refine awp_regionD (id := 8) 9 mixed (by decide +kernel) ?_ | refine awp_regionD (id := 10) 9 mixed (by decide +kernel) ?_ | refine awp_condM ?_ | refine And.intro ?_ ?_ | apply gQ_merge | apply gE_merge | exact EqV_w | exact EqE_w | exact EqV_ptr | exact EqE_ptr | exact EqV_msl | exact EqE_msl | exact EqV_agg | exact EqE_agg | exact EqV_fn | exact EqE_fn | exact EqV_gd | exact EqE_gd | refine gM_splitN ?_ ?_ | refine gM_split ?_ ?_ |  refine condM_splitDN ?_ ?_ | refine condM_splitD ?_ ?_ | refine condM_splitN ?_ ?_ | refine condM_split ?_ ?_ | refine condM_any ?_ ?_ | intro _) | (simp [*, hlt, hlt2, hq]))
          all_goals try first | exact inI64 (by omega) (by omega) | omega
          all_goals (refine loopK_normal _ _ _ _ _ k _ ?_ (by first | omega | (dsimp only; omega) | (simp; omega)) ?_; (· exact ⟨by omega, kj⟩); (refine le_of ?_ ?_ <;> first | trivial | (simp [*]; done)))
        · have hC := (show ∀ k, k < a.length → a.drop (k + 1) = b.drop (k + 1) → nth b k < nth a k → C = 1 from k2) k hlt hj hq
          have hq2 : ¬ nth a k < nth b k := by omega
          subst hC
          clear k1 k2 k3 hj
          rw [hI]
          repeat' (first | (with_reducible first | refine awp_seq ?_ | refine awp_blockS ?_ | refine awp_blockC ?_ | refine awp_blockR ?_ | refine awp_skip ?_ | refine awp_ret ?_ | refine awp_exit ?_ | refine awp_region ?_ | refine awp_regionD (id := 8) 9 mixed (by decide +kernel) ?_ | refine awp_regionD (id := 10) 9 mixed (by decide +kernel) ?_ | refine awp_condM ?_ | refine And.intro ?_ ?_ | apply gQ_merge | apply gE_merge | exact EqV_w | exact EqE_w | exact EqV_ptr | exact EqE_ptr | exact EqV_msl | exact EqE_msl | exact EqV_agg | exact EqE_agg | exact EqV_fn | exact EqE_fn | exact EqV_gd | exact EqE_gd | refine gM_splitN ?_ ?_ | refine gM_split ?_ ?_ |  refine condM_splitDN ?_ ?_ | refine condM_splitD ?_ ?_ | refine condM_splitN ?_ ?_ | refine condM_split ?_ ?_ | refine condM_any ?_ ?_ | intro _) | (simp [*, hlt, hlt2, hq, hq2]))
          all_goals try first | exact inI64 (by omega) (by omega) | omega
    · have hC := (show a = b → C = 0 from k3) hf
      subst hC
      clear k1 k2 k3 hf
      repeat' (first | (with_reducible first | refine awp_seq ?_ | refine awp_blockS ?_ | refine awp_blockC ?_ | refine awp_blockR ?_ | refine awp_skip ?_ | refine awp_ret ?_ | refine awp_exit ?_ | refine awp_region ?_ | refine awp_regionD (id := 8) 9 mixed (by decide +kernel) ?_ | refine awp_regionD (id := 10) 9 mixed (by decide +kernel) ?_ | refine awp_condM ?_ | refine And.intro ?_ ?_ | apply gQ_merge | apply gE_merge | exact EqV_w | exact EqE_w | exact EqV_ptr | exact EqE_ptr | exact EqV_msl | exact EqE_msl | exact EqV_agg | exact EqE_agg | exact EqV_fn | exact EqE_fn | exact EqV_gd | exact EqE_gd | refine gM_splitN ?_ ?_ | refine gM_split ?_ ?_ |  refine condM_splitDN ?_ ?_ | refine condM_splitD ?_ ?_ | refine condM_splitN ?_ ?_ | refine condM_split ?_ ?_ | refine condM_any ?_ ?_ | intro _) | (simp [*]))
  · have hlI : ¬ ((digs m).length : Int) = ((digs n).length : Int) := by omega
    by_cases hs : (digs m).length < (digs n).length
    · have hsI : ((digs m).length : Int) < ((digs n).length : Int) := by omega
      have hC : cmpZ m n = -1 := if_pos (digs_shorter hs)
      rw [hC]
      generalize digs m = a at *
      generalize digs n = b at *
      clear va vb
      refine realcall_intro Tryz.func84 (by kernel_rfl) rfl (Nat.le_of_ble_eq_true (by kernel_rfl)) ?_
      simp only [Tryz.results84, Tryz.ntmps84]
      repeat' (first | (with_reducible first | refine awp_seq ?_ | refine awp_blockS ?_ | refine awp_blockC ?_ | refine awp_blockR ?_ | refine awp_skip ?_ | refine awp_ret ?_ | refine awp_exit ?_ | refine awp_region ?_ | refine awp_regionD (id := 8) 9 mixed (by decide +kernel) ?_ | refine awp_regionD (id := 10) 9 mixed (by decide +kernel) ?_ | refine awp_condM ?_ | refine And.intro ?_ ?_ | apply gQ_merge | apply gE_merge | exact EqV_w | exact EqE_w | exact EqV_ptr | exact EqE_ptr | exact EqV_msl | exact EqE_msl | exact EqV_agg | exact EqE_agg | exact EqV_fn | exact EqE_fn | exact EqV_gd | exact EqE_gd | refine gM_splitN ?_ ?_ | refine gM_split ?_ ?_ |  refine condM_splitDN ?_ ?_ | refine condM_splitD ?_ ?_ | refine condM_splitN ?_ ?_ | refine condM_split ?_ ?_ | refine condM_any ?_ ?_ | intro _) | (simp [*, hl, hlI, hs, hsI]))
    · have hsI : ¬ ((digs m).length : Int) < ((digs n).length : Int) := by omega
      have h5 := digs_shorter (m := n) (n := m) (by omega)
      have hC : cmpZ m n = 1 := by unfold cmpZ; rw [if_neg (by omega), if_pos h5]
      rw [hC]
      generalize digs m = a at *
      generalize digs n = b at *
      clear va vb
      refine realcall_intro Tryz.func84 (by kernel_rfl) rfl (Nat.le_of_ble_eq_true (by kernel_rfl)) ?_
      simp only [Tryz.results84, Tryz.ntmps84]
      repeat' (first | (with_reducible first | refine awp_seq ?_ | refine awp_blockS ?_ | refine awp_blockC ?_ | refine awp_blockR ?_ | refine awp_skip ?_ | refine awp_ret ?_ | refine awp_exit ?_ | refine awp_region ?_ | refine awp_regionD (id := 8) 9 mixed (by decide +kernel) ?_ | refine awp_regionD (id := 10) 9 mixed (by decide +kernel) ?_ | refine awp_condM ?_ | refine And.intro ?_ ?_ | apply gQ_merge | apply gE_merge | exact EqV_w | exact EqE_w | exact EqV_ptr | exact EqE_ptr | exact EqV_msl | exact EqE_msl | exact EqV_agg | exact EqE_agg | exact EqV_fn | exact EqE_fn | exact EqV_gd | exact EqE_gd | refine gM_splitN ?_ ?_ | refine gM_split ?_ ?_ |  refine condM_splitDN ?_ ?_ | refine condM_splitD ?_ ?_ | refine condM_splitN ?_ ?_ | refine condM_split ?_ ?_ | refine condM_any ?_ ?_ | intro _) | (simp [*, hl, hlI, hs, hsI]))
end Go.Proofs.YtpjhpmpbdfeajaaGreatDoor
namespace Go.Proofs.YtpjhpmpbdfeajaaGreatDoor
open Go Go.Fi
set_option maxRecDepth 20000

/-! ### digits subtracted -/
@[simp] theorem subK_zero (a b : List Int) : subK a b 0 = ([], 0) := rfl
@[simp] theorem fAddK_zero (a b : List Int) : Fi.addK a b 0 = ([], 0) := rfl
set_option maxHeartbeats 4000000 in
theorem subD_c (m n : Nat) (hm : (digs m).length < 100000) (hn : (digs n).length < 100000) (hle : n ≤ m) : RealCall Tryz.prog 85 [.sl (digs m).length (ints (digs m)), .sl (digs n).length (ints (digs n))] (.sl (digs (m - n)).length (ints (digs (m - n)))) false := by
  have oa := okD_digs m
  have ob := okD_digs n
  have hll : (digs n).length ≤ (digs m).length := by
    rcases Nat.lt_or_ge (digs m).length (digs n).length with h | h
    · have := digs_shorter h; omega
    · exact h
  have hend := subK_end oa ob (by rw [valD_digs, valD_digs]; omega) hll
  rw [valD_digs, valD_digs] at hend
  have hinv := subK_inv oa ob
  have hlast := hinv (digs m).length
  have ht := trimD_digs hlast.2.1
  rw [hend, show ((m : Int) - (n : Int)).toNat = m - n by omega] at ht
  have c3 := trimmed_c (subK (digs m) (digs n) (digs m).length).1 (by rw [hlast.1]; exact hm)
  rw [ht, hlast.1] at c3
  have hL := hlast.1
  clear hend hlast ht
  have ca := digit_c (digs n) hn
  have bda := fun k => dg_bd oa k
  have bdb := fun k => dg_bd ob k
  have kinv := keep hinv
  have kca := keep ca
  have kba := keep bda
  have kbb := keep bdb
  have kc3 := keep c3
  clear hinv ca bda bdb c3 oa ob
  generalize digs (m - n) = D at *
  generalize digs m = a at *
  generalize digs n = b at *
  refine realcall_intro Tryz.func85 (by kernel_rfl) rfl (Nat.le_of_ble_eq_true (by kernel_rfl)) ?_
  simp only [Tryz.results85, Tryz.ntmps85]
  repeat' (first | (with_reducible first | refine awp_seq ?_ | refine awp_blockS ?_ | refine awp_blockC ?_ | refine awp_blockR ?_ | refine awp_skip ?_ | refine awp_ret ?_ | refine awp_exit ?_ | refine awp_region ?_ | refine awp_regionD (id := 6) 11 mixed (by decide +kernel) ?_ | refine awp_condM ?_ | refine And.intro ?_ ?_ | apply gQ_merge | apply gE_merge | exact EqV_w | exact EqE_w | exact EqV_ptr | exact EqE_ptr | exact EqV_msl | exact EqE_msl | exact EqV_agg | exact EqE_agg | exact EqV_fn | exact EqE_fn | exact EqV_gd | exact EqE_gd | refine gM_splitN ?_ ?_ | refine gM_split ?_ ?_ |  refine condM_splitDN ?_ ?_ | refine condM_splitD ?_ ?_ | refine condM_splitN ?_ ?_ | refine condM_split ?_ ?_ | refine condM_any ?_ ?_ | intro _) | (simp [*]))
  refine awp_for4 1 (fun (k : Nat) => k ≤ a.length) [0, 1] (fun (k : Nat) => [(7, .w false false (.int .i64 k)), (6, .w false false (.int .i64 (subK a b k).2)), (5, .msl 0 k 1 0 k)]) [] (fun (k : Nat) => [(0, iA (subK a b k).1)]) (fun (k : Nat) => a.length - k) (fun (_u : Unit) => True) [] (fun (_u : Unit) => [(5, .w true false (.sl a.length (ints (subK a b a.length).1)))]) [] (fun (_u : Unit) => []) (0) (Nat.zero_le _) (le_gen [] (by simp) (by simp)) (fun k hk => ?_) (fun _u hf => ?_)
  · by_cases hlt : k < a.length
    · have hltI : (k : Int) < (a.length : Int) := by omega
      obtain ⟨i1, i2, i3, i4⟩ := (show ∀ k, (subK a b k).1.length = k ∧ okD (subK a b k).1 ∧ (0 ≤ (subK a b k).2 ∧ (subK a b k).2 ≤ 1) ∧ valD (subK a b k).1 - (subK a b k).2 * PB k = valD (a.take k) - valD (b.take k) from kinv) k
      have c1 := (show ∀ i : Nat, RealCall Tryz.prog 120 [.sl b.length (ints b), .int .i64 (i : Int)] (.int .i64 (dg b i)) true from kca) k
      have b1 := (show ∀ k, 0 ≤ dg a k ∧ dg a k < 1000000000 from kba) k
      have b2 := (show ∀ k, 0 ≤ dg b k ∧ dg b k < 1000000000 from kbb) k
      have e : nth a k = dg a k := by simp [dg, nth, List.getD_eq_getElem?_getD]
      have hs : subK a b (k + 1) = if dg a k - dg b k - (subK a b k).2 < 0 then ((subK a b k).1 ++ [dg a k - dg b k - (subK a b k).2 + 1000000000], 1) else ((subK a b k).1 ++ [dg a k - dg b k - (subK a b k).2], 0) := rfl
      clear kinv kca kba kbb kc3 i2 i4 hL
      generalize (subK a b k).1 = o at *
      generalize (subK a b k).2 = c at *
      generalize dg b k = y at *
      generalize dg a k = x at *
      by_cases hz : x - y - c < 0
      · rw [if_pos hz] at hs
        have kk := keep hs
        clear hs
        repeat' (first | (with_reducible first | refine awp_seq ?_ | refine awp_blockS ?_ | refine awp_blockC ?_ | refine awp_blockR ?_ | refine awp_skip ?_ | refine awp_ret ?_ | refine awp_exit ?_ | refine awp_region ?_ | refine awp_regionD (id := 6) 11 mixed (by decide +kernel) ?_ | refine awp_condM ?_ | refine And.intro ?_ ?_ | apply gQ_merge | apply gE_merge | exact EqV_w | exact EqE_w | exact EqV_ptr | exact EqE_ptr | exact EqV_msl | exact EqE_msl | exact EqV_agg | exact EqE_agg | exact EqV_fn | exact EqE_fn | exact EqV_gd | exact EqE_gd | refine gM_splitN ?_ ?_ | refine gM_split ?_ ?_ |  refine condM_splitDN ?_ ?_ | refine condM_splitD ?_ ?_ | refine condM_splitN ?_ ?_ | refine condM_split ?_ ?_ | refine condM_any ?_ ?_ | refine cw (c1) ?_ | intro _) | (simp [*, hlt, hltI, e, hz, i1]) | (refine cw_eq (c1) ?_ ?_; (· (simp [*]; done))))
        all_goals try first | exact inI64 (by omega) (by omega) | omega
        all_goals (refine loopK_normal _ _ _ _ _ (k + 1) _ ?_ (by first | omega | (dsimp only; omega) | (simp; omega)) ?_; (· omega); (refine le_gen [] ?_ ?_ <;> first | trivial | (simp [*, (show subK a b (k + 1) = _ from kk)]; done)))
      · rw [if_neg hz] at hs
        have kk := keep hs
        clear hs
        repeat' (first | (with_reducible first | refine awp_seq ?_ | refine awp_blockS ?_ | refine awp_blockC ?_ | refine awp_blockR ?_ | refine awp_skip ?_ | refine awp_ret ?_ | refine awp_exit ?_ | refine awp_region ?_ | refine awp_regionD (id := 6) 11 mixed (by decide +kernel) ?_ | refine awp_condM ?_ | refine And.intro ?_ ?_ | apply gQ_merge | apply gE_merge | exact EqV_w | exact EqE_w | exact EqV_ptr | exact EqE_ptr | exact EqV_msl | exact EqE_msl | exact EqV_agg | exact EqE_agg | exact EqV_fn | exact EqE_fn | exact EqV_gd | exact EqE_gd | refine gM_splitN ?_ ?_ | refine gM_split ?_ ?_ |  refine condM_splitDN ?_ ?_ | refine condM_splitD ?_ ?_ | refine condM_splitN ?_ ?_ | refine condM_split ?_ ?_ | refine condM_any ?_ ?_ | refine cw (c1) ?_ | intro _) | (simp [*, hlt, hltI, e, hz, i1]) | (refine cw_eq (c1) ?_ ?_; (· (simp [*]; done))))
        all_goals try first | exact inI64 (by omega) (by omega) | omega
        all_goals (refine loopK_normal _ _ _ _ _ (k + 1) _ ?_ (by first | omega | (dsimp only; omega) | (simp; omega)) ?_; (· omega); (refine le_gen [] ?_ ?_ <;> first | trivial | (simp [*, (show subK a b (k + 1) = _ from kk)]; done)))
    · have hke : k = a.length := by omega
      subst hke
      clear kinv kca kba kbb kc3
      have ht2 : (ints (subK a b a.length).1).take a.length = ints (subK a b a.length).1 := by rw [ints_take, List.take_of_length_le (by omega)]
      repeat' (first | (with_reducible first | refine awp_seq ?_ | refine awp_blockS ?_ | refine awp_blockC ?_ | refine awp_blockR ?_ | refine awp_skip ?_ | refine awp_ret ?_ | refine awp_exit ?_ | refine awp_region ?_ | refine awp_regionD (id := 6) 11 mixed (by decide +kernel) ?_ | refine awp_condM ?_ | refine And.intro ?_ ?_ | apply gQ_merge | apply gE_merge | exact EqV_w | exact EqE_w | exact EqV_ptr | exact EqE_ptr | exact EqV_msl | exact EqE_msl | exact EqV_agg | exact EqE_agg | exact EqV_fn | exact EqE_fn | exact EqV_gd | exact EqE_gd | refine gM_splitN ?_ ?_ | refine gM_split ?_ ?_ |  refine condM_splitDN ?_ ?_ | refine condM_splitD ?_ ?_ | refine condM_splitN ?_ ?_ | refine condM_split ?_ ?_ | refine condM_any ?_ ?_ | intro _) | (simp [*]))
      all_goals (refine finW_intro () ?_ ?_; (· trivial); (refine le_gen [0] ?_ ?_ <;> first | trivial | (simp [*, ht2, hL]; done)))
  · have c3 := (show RealCall _ _ _ _ false from kc3)
    clear kinv kca kba kbb kc3
    repeat' (first | (with_reducible first | refine awp_seq ?_ | refine awp_blockS ?_ | refine awp_blockC ?_ | refine awp_blockR ?_ | refine awp_skip ?_ | refine awp_ret ?_ | refine awp_exit ?_ | refine awp_region ?_ | refine awp_regionD (id := 6) 11 mixed (by decide +kernel) ?_ | refine awp_condM ?_ | refine And.intro ?_ ?_ | apply gQ_merge | apply gE_merge | exact EqV_w | exact EqE_w | exact EqV_ptr | exact EqE_ptr | exact EqV_msl | exact EqE_msl | exact EqV_agg | exact EqE_agg | exact EqV_fn | exact EqE_fn | exact EqV_gd | exact EqE_gd | refine gM_splitN ?_ ?_ | refine gM_split ?_ ?_ |  refine condM_splitDN ?_ ?_ | refine condM_splitD ?_ ?_ | refine condM_splitN ?_ ?_ | refine condM_split ?_ ?_ | refine condM_any ?_ ?_ | refine cw (c3) ?_ | intro _) | (simp [*]) | (refine cw_eq (c3) ?_ ?_; (· (simp [*]; done))))
end Go.Proofs.YtpjhpmpbdfeajaaGreatDoor
namespace Go.Proofs.YtpjhpmpbdfeajaaGreatDoor
open Go Go.Fi
set_option maxRecDepth 20000

/-! ### digits added -/
def addEnd (a b : List Int) : Nat := if (Fi.addK a b (max a.length b.length)).2 = 0 then max a.length b.length else max a.length b.length + 1
theorem addK_rest {a b : List Int} (ha : okD a) (hb : okD b) : (Fi.addK a b (addEnd a b)).2 = 0 ∧ a.length ≤ addEnd a b ∧ b.length ≤ addEnd a b ∧ addEnd a b ≤ max a.length b.length + 1 ∧
    ∀ k, k < addEnd a b → k < a.length ∨ k < b.length ∨ (Fi.addK a b k).2 = 1 := by
  have hM := (addK_inv ha hb (max a.length b.length)).2.2.1
  unfold addEnd
  by_cases h : (Fi.addK a b (max a.length b.length)).2 = 0
  · rw [if_pos h]
    refine ⟨h, Nat.le_max_left _ _, Nat.le_max_right _ _, by omega, fun k hk => ?_⟩
    rcases Nat.lt_or_ge k a.length with h1 | h1
    · exact .inl h1
    · rcases Nat.lt_or_ge k b.length with h2 | h2
      · exact .inr (.inl h2)
      · omega
  · rw [if_neg h]
    have h1 : (Fi.addK a b (max a.length b.length)).2 = 1 := by omega
    refine ⟨?_, by omega, by omega, by omega, fun k hk => ?_⟩
    · show (dg a (max a.length b.length) + dg b (max a.length b.length) + (Fi.addK a b (max a.length b.length)).2) / 1000000000 = 0
      rw [h1, dg_out (Nat.le_max_left _ _), dg_out (Nat.le_max_right _ _)]
      rfl
    · rcases Nat.lt_or_ge k (max a.length b.length) with h2 | h2
      · rcases Nat.lt_or_ge k a.length with h3 | h3
        · exact .inl h3
        · exact .inr (.inl (by omega))
      · have : k = max a.length b.length := by omega
        rw [this]; exact .inr (.inr h1)
def addR (a b : List Int) : List Int := (Fi.addK a b (addEnd a b)).1
theorem addR_facts {a b : List Int} (ha : okD a) (hb : okD b) : okD (addR a b) ∧ valD (addR a b) = valD a + valD b ∧ (addR a b).length = addEnd a b := by
  obtain ⟨h1, h2, h3, _, _⟩ := addK_rest ha hb
  obtain ⟨i1, i2, _, i4⟩ := addK_inv ha hb (addEnd a b)
  rw [h1, List.take_of_length_le h2, List.take_of_length_le h3] at i4
  exact ⟨i2, by unfold addR; omega, i1⟩
set_option maxHeartbeats 8000000 in
theorem addD_c (a b : List Int) (oa : okD a) (ob : okD b) (hm : a.length < 10000) (hn : b.length < 10000) : RealCall Tryz.prog 83 [.sl a.length (ints a), .sl b.length (ints b)] (.sl (addR a b).length (ints (addR a b))) true := by
  obtain ⟨r1, r2, r3, r4, r5⟩ := addK_rest oa ob
  have hinv := addK_inv oa ob
  have hlen := (addR_facts oa ob).2.2
  rw [hlen]
  unfold addR
  have kinv := keep hinv
  have kca := keep (digit_c a (by omega))
  have kcb := keep (digit_c b (by omega))
  have kba := keep (fun k => dg_bd oa k)
  have kbb := keep (fun k => dg_bd ob k)
  have kr5 := keep r5
  have hE : addEnd a b ≤ 20001 := by omega
  have hL := (hinv (addEnd a b)).1
  clear hinv oa ob hlen r5
  generalize addEnd a b = E at *
  refine realcall_intro Tryz.func83 (by kernel_rfl) rfl (Nat.le_of_ble_eq_true (by kernel_rfl)) ?_
  simp only [Tryz.results83, Tryz.ntmps83]
  repeat' (first | (with_reducible first | refine awp_seq ?_ | refine awp_blockS ?_ | refine awp_blockC ?_ | refine awp_blockR ?_ | refine awp_skip ?_ | refine awp_ret ?_ | refine awp_exit ?_ | refine awp_region ?_ | refine awp_condM ?_ | refine And.intro ?_ ?_ | apply gQ_merge | apply gE_merge | exact EqV_w | exact EqE_w | exact EqV_ptr | exact EqE_ptr | exact EqV_msl | exact EqE_msl | exact EqV_agg | exact EqE_agg | exact EqV_fn | exact EqE_fn | exact EqV_gd | exact EqE_gd | refine gM_splitN ?_ ?_ | refine gM_split ?_ ?_ |  refine condM_splitDN ?_ ?_ | refine condM_splitD ?_ ?_ | refine condM_splitN ?_ ?_ | refine condM_split ?_ ?_ | refine condM_any ?_ ?_ | intro _) | (simp [*]))
  refine awp_for4 1 (fun (k : Nat) => k ≤ E) [0, 1] (fun (k : Nat) => [(7, .w false false (.int .i64 k)), (6, .w false false (.int .i64 (Fi.addK a b k).2)), (5, .msl 0 k 1 0 k)]) [] (fun (k : Nat) => [(0, iA (Fi.addK a b k).1)]) (fun (k : Nat) => E - k) (fun (_u : Unit) => True) [] (fun (_u : Unit) => [(5, .msl 0 E 1 0 E)]) [] (fun (_u : Unit) => [(0, iA (Fi.addK a b E).1)]) (0) (Nat.zero_le _) (le_gen [] (by simp) (by simp)) (fun k hk => ?_) (fun _u hf => ?_)
  · by_cases hlt : k < E
    · obtain ⟨i1, i2, i3, i4⟩ := (show ∀ k, (Fi.addK a b k).1.length = k ∧ okD (Fi.addK a b k).1 ∧ (0 ≤ (Fi.addK a b k).2 ∧ (Fi.addK a b k).2 ≤ 1) ∧ valD (Fi.addK a b k).1 + (Fi.addK a b k).2 * PB k = valD (a.take k) + valD (b.take k) from kinv) k
      have c1 := (show ∀ i : Nat, RealCall Tryz.prog 120 [.sl a.length (ints a), .int .i64 (i : Int)] (.int .i64 (dg a i)) true from kca) k
      have c2 := (show ∀ i : Nat, RealCall Tryz.prog 120 [.sl b.length (ints b), .int .i64 (i : Int)] (.int .i64 (dg b i)) true from kcb) k
      have b1 := (show ∀ k, 0 ≤ dg a k ∧ dg a k < 1000000000 from kba) k
      have b2 := (show ∀ k, 0 ≤ dg b k ∧ dg b k < 1000000000 from kbb) k
      have h5 := (show ∀ k, k < E → k < a.length ∨ k < b.length ∨ (Fi.addK a b k).2 = 1 from kr5) k hlt
      have hs : Fi.addK a b (k + 1) = ((Fi.addK a b k).1 ++ [(dg a k + dg b k + (Fi.addK a b k).2) % 1000000000], (dg a k + dg b k + (Fi.addK a b k).2) / 1000000000) := rfl
      clear kinv kca kcb kba kbb kr5 i2 i4 hL r1
      generalize (Fi.addK a b k).1 = o at *
      generalize (Fi.addK a b k).2 = c at *
      generalize dg b k = y at *
      generalize dg a k = x at *
      have g3 : (x + y + c).tmod 1000000000 = (x + y + c) % 1000000000 := Int.tmod_eq_emod_of_nonneg (by omega)
      have g4 : (x + y + c).tdiv 1000000000 = (x + y + c) / 1000000000 := Int.tdiv_eq_ediv_of_nonneg (by omega)
      have g5 : 0 ≤ (x + y + c) % 1000000000 ∧ (x + y + c) % 1000000000 < 1000000000 := by omega
      have g6 : 0 ≤ (x + y + c) / 1000000000 ∧ (x + y + c) / 1000000000 ≤ 1 := by omega
      generalize (x + y + c) % 1000000000 = r at *
      generalize (x + y + c) / 1000000000 = q at *
      have kk := keep hs
      clear hs
      by_cases ha : k < a.length
      · have haI : (k : Int) < (a.length : Int) := by omega
        clear h5
        repeat' (first | (with_reducible first | refine awp_seq ?_ | refine awp_blockS ?_ | refine awp_blockC ?_ | refine awp_blockR ?_ | refine awp_skip ?_ | refine awp_ret ?_ | refine awp_exit ?_ | refine awp_region ?_ | refine awp_condM ?_ | refine And.intro ?_ ?_ | apply gQ_merge | apply gE_merge | exact EqV_w | exact EqE_w | exact EqV_ptr | exact EqE_ptr | exact EqV_msl | exact EqE_msl | exact EqV_agg | exact EqE_agg | exact EqV_fn | exact EqE_fn | exact EqV_gd | exact EqE_gd | refine gM_splitN ?_ ?_ | refine gM_split ?_ ?_ |  refine condM_splitDN ?_ ?_ | refine condM_splitD ?_ ?_ | refine condM_splitN ?_ ?_ | refine condM_split ?_ ?_ | refine condM_any ?_ ?_ | refine cw (c1) ?_ | refine cw (c2) ?_ | intro _) | (simp [*, ha, haI, g3, g4, i1]) | (refine cw_eq (c1) ?_ ?_; (· (simp [*]; done))) | (refine cw_eq (c2) ?_ ?_; (· (simp [*]; done))))
        all_goals try first | exact inI64 (by omega) (by omega) | omega
        all_goals (refine loopK_normal _ _ _ _ _ (k + 1) _ ?_ (by first | omega | (dsimp only; omega) | (simp; omega)) ?_; (· omega); (refine le_gen [] ?_ ?_ <;> first | trivial | (simp [*, (show Fi.addK a b (k + 1) = _ from kk)]; done)))
      · have haI : ¬ (k : Int) < (a.length : Int) := by omega
        by_cases hb : k < b.length
        · have hbI : (k : Int) < (b.length : Int) := by omega
          clear h5
          repeat' (first | (with_reducible first | refine awp_seq ?_ | refine awp_blockS ?_ | refine awp_blockC ?_ | refine awp_blockR ?_ | refine awp_skip ?_ | refine awp_ret ?_ | refine awp_exit ?_ | refine awp_region ?_ | refine awp_condM ?_ | refine And.intro ?_ ?_ | apply gQ_merge | apply gE_merge | exact EqV_w | exact EqE_w | exact EqV_ptr | exact EqE_ptr | exact EqV_msl | exact EqE_msl | exact EqV_agg | exact EqE_agg | exact EqV_fn | exact EqE_fn | exact EqV_gd | exact EqE_gd | refine gM_splitN ?_ ?_ | refine gM_split ?_ ?_ |  refine condM_splitDN ?_ ?_ | refine condM_splitD ?_ ?_ | refine condM_splitN ?_ ?_ | refine condM_split ?_ ?_ | refine condM_any ?_ ?_ | refine cw (c1) ?_ | refine cw (c2) ?_ | intro _) | (simp [*, ha, haI, hb, hbI, g3, g4, i1]) | (refine cw_eq (c1) ?_ ?_; (· (simp [*]; done))) | (refine cw_eq (c2) ?_ ?_; (· (simp [*]; done))))
          all_goals try first | exact inI64 (by omega) (by omega) | omega
          all_goals (refine loopK_normal _ _ _ _ _ (k + 1) _ ?_ (by first | omega | (dsimp only; omega) | (simp; omega)) ?_; (· omega); (refine le_gen [] ?_ ?_ <;> first | trivial | (simp [*, (show Fi.addK a b (k + 1) = _ from kk)]; done)))
        · have hbI : ¬ (k : Int) < (b.length : Int) := by omega
          have hc : 0 < c := by omega
          clear h5
          repeat' (first | (with_reducible first | refine awp_seq ?_ | refine awp_blockS ?_ | refine awp_blockC ?_ | refine awp_blockR ?_ | refine awp_skip ?_ | refine awp_ret ?_ | refine awp_exit ?_ | refine awp_region ?_ | refine awp_condM ?_ | refine And.intro ?_ ?_ | apply gQ_merge | apply gE_merge | exact EqV_w | exact EqE_w | exact EqV_ptr | exact EqE_ptr | exact EqV_msl | exact EqE_msl | exact EqV_agg | exact EqE_agg | exact EqV_fn | exact EqE_fn | exact EqV_gd | exact EqE_gd | refine gM_splitN ?_ ?_ | refine gM_split ?_ ?_ |  refine condM_splitDN ?_ ?_ | refine condM_splitD ?_ ?_ | refine condM_splitN ?_ ?_ | refine condM_split ?_ ?_ | refine condM_any ?_ ?_ | refine cw (c1) ?_ | refine cw (c2) ?_ | intro _) | (simp [*, ha, haI, hb, hbI, hc, g3, g4, i1]) | (refine cw_eq (c1) ?_ ?_; (· (simp [*]; done))) | (refine cw_eq (c2) ?_ ?_; (· (simp [*]; done))))
          all_goals try first | exact inI64 (by omega) (by omega) | omega
          all_goals (refine loopK_normal _ _ _ _ _ (k + 1) _ ?_ (by first | omega | (dsimp only; omega) | (simp; omega)) ?_; (· omega); (refine le_gen [] ?_ ?_ <;> first | trivial | (simp [*, (show Fi.addK a b (k + 1) = _ from kk)]; done)))
    · have hke : k = E := by omega
      subst hke
      have haI : ¬ (k : Int) < (a.length : Int) := by omega
      have hbI : ¬ (k : Int) < (b.length : Int) := by omega
      have ha : ¬ k < a.length := by omega
      have hb : ¬ k < b.length := by omega
      clear kinv kca kcb kba kbb kr5
      repeat' (first | (with_reducible first | refine awp_seq ?_ | refine awp_blockS ?_ | refine awp_blockC ?_ | refine awp_blockR ?_ | refine awp_skip ?_ | refine awp_ret ?_ | refine awp_exit ?_ | refine awp_region ?_ | refine awp_condM ?_ | refine And.intro ?_ ?_ | apply gQ_merge | apply gE_merge | exact EqV_w | exact EqE_w | exact EqV_ptr | exact EqE_ptr | exact EqV_msl | exact EqE_msl | exact EqV_agg | exact EqE_agg | exact EqV_fn | exact EqE_fn | exact EqV_gd | exact EqE_gd | refine gM_splitN ?_ ?_ | refine gM_split ?_ ?_ |  refine condM_splitDN ?_ ?_ | refine condM_splitD ?_ ?_ | refine condM_splitN ?_ ?_ | refine condM_split ?_ ?_ | refine condM_any ?_ ?_ | intro _) | (simp [*, haI, hbI, ha, hb, r1]))
      all_goals (refine finW_intro () ?_ ?_; (· trivial); (refine le_of ?_ ?_ <;> first | trivial | (simp [*]; done)))
  · clear kinv kca kcb kba kbb kr5
    have ht2 : (ints (Fi.addK a b E).1).take E = ints (Fi.addK a b E).1 := by rw [ints_take, List.take_of_length_le (by omega)]
    repeat' (first | (with_reducible first | refine awp_seq ?_ | refine awp_blockS ?_ | refine awp_blockC ?_ | refine awp_blockR ?_ | refine awp_skip ?_ | refine awp_ret ?_ | refine awp_exit ?_ | refine awp_region ?_ | refine awp_condM ?_ | refine And.intro ?_ ?_ | apply gQ_merge | apply gE_merge | exact EqV_w | exact EqE_w | exact EqV_ptr | exact EqE_ptr | exact EqV_msl | exact EqE_msl | exact EqV_agg | exact EqE_agg | exact EqV_fn | exact EqE_fn | exact EqV_gd | exact EqE_gd | refine gM_splitN ?_ ?_ | refine gM_split ?_ ?_ |  refine condM_splitDN ?_ ?_ | refine condM_splitD ?_ ?_ | refine condM_splitN ?_ ?_ | refine condM_split ?_ ?_ | refine condM_any ?_ ?_ | intro _) | (simp [*, ht2, hL]))
end Go.Proofs.YtpjhpmpbdfeajaaGreatDoor

