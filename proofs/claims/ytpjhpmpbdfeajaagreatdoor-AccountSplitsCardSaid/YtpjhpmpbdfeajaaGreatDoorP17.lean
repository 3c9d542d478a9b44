/- Contracts of functions for this claim: lemmas alone. -/
import Derived.Test.YtpjhpmpbdfeajaaGreatDoorP15
import Derived.Test.YtpjhpmpbdfeajaaGreatDoorP13
set_option linter.unusedSimpArgs false
set_option linter.unusedVariables false
namespace Go.Proofs.YtpjhpmpbdfeajaaGreatDoor
open Go Go.Fi
set_option maxRecDepth 20000

structure SplitIn (a : Nat) (ns : List Nat) : Prop where
  len : ns.length ≤ 20
  pos : 0 < sumN ns
  share : ∀ k, k < ns.length → nth ns k ≤ 1000000
  amt : a ≤ 1000000000000000
/-- what Div64 gives for each share -/
def DivAll (a : Nat) (ns : List Nat) : Prop := ∀ k, k < ns.length → RealCall Tryz.prog 79 [.int .u64 ((a * nth ns k / 18446744073709551616 : Nat) : Int), .int .u64 ((a * nth ns k % 18446744073709551616 : Nat) : Int), .int .u64 ((sumN ns : Nat) : Int)] (.tup [.int .u64 ((a * nth ns k / sumN ns : Nat) : Int), .int .u64 ((a * nth ns k % sumN ns : Nat) : Int)]) true
theorem sumN_bd : ∀ (ns : List Nat), (∀ k, k < ns.length → nth ns k ≤ 1000000) → sumN ns ≤ 1000000 * ns.length
  | [], _ => by simp
  | x :: r, h => by
    have h1 := sumN_bd r (fun k hk => by have := h (k + 1) (by simp; omega); simpa using this)
    have h2 := h 0 (by simp)
    simp only [nth_zero] at h2
    simp only [sumN, List.length_cons]; omega
theorem div_bd {a s S : Nat} (h : s ≤ S) (hS : 0 < S) : a * s / S ≤ a := by
  have : a * s / S ≤ a * S / S := Nat.div_le_div_right (Nat.mul_le_mul_left a h)
  rwa [Nat.mul_div_cancel _ hS] at this
theorem nth_le_sum : ∀ (ns : List Nat) (k : Nat), k < ns.length → nth ns k ≤ sumN ns
  | [], k, h => by simp at h
  | x :: r, 0, _ => by simp [sumN]
  | x :: r, k + 1, h => by
    have := nth_le_sum r k (by simpa using h)
    simp only [sumN, nth_succ]; omega
theorem given_mono (a S : Nat) (ns : List Nat) (k : Nat) : givenK a S (ns.take k) ≤ givenK a S ns := by
  have key : ∀ (l r : List Nat), givenK a S l ≤ givenK a S (l ++ r) := by
    intro l r
    induction l with
    | nil => simp
    | cons x l ih => simp only [List.cons_append, givenK]; omega
  have := key (ns.take k) (ns.drop k)
  rwa [List.take_append_drop] at this
set_option maxHeartbeats 16000000 in
theorem split_mk (a : Nat) (ns : List Nat) (h : SplitIn a ns) (hdiv : DivAll a ns) : MkCall Tryz.prog 40 [.int .i64 (a : Int), .sl ns.length (ints (toI ns))] [iA (splitS a ns)] (.msl 0 ns.length 1 0 ns.length) := by
  have hlen := h.len
  have hpos := h.pos
  have hsh := h.share
  have ham := h.amt
  obtain ⟨hg1, hg2⟩ := left_bd a ns hpos
  have hS := sumN_bd ns hsh
  have hn0 : 0 < ns.length := by omega
  clear h
  have kdiv := keep hdiv
  clear hdiv
  have hti := toI_len ns
  have ha0 : ¬ (a : Int) < 0 := by omega
  refine mkcall_intro 2 [] Tryz.func40 (by kernel_rfl) rfl (Nat.le_of_ble_eq_true (by kernel_rfl)) (by simp) (by simp) ?_
  simp only [Tryz.results40, Tryz.ntmps40]
  repeat' (first | (with_reducible first | refine awp_seq ?_ | refine awp_blockS ?_ | refine awp_blockC ?_ | refine awp_blockR ?_ | refine awp_skip ?_ | refine awp_ret ?_ | refine awp_exit ?_ | refine awp_region ?_ | refine awp_regionS (id := 23) [0, 1, 2, 3, 5, 6, 7, 9, 10, 11] [4, 8, 12, 13, 14, 15] [[], [], [], [], [.slot 10], [.slot 10], [.slot 10], [.slot 10, .fld 12 40 0], [.slot 10, .fld 12 40 0], [.slot 10, .fld 12 40 0]] [[.slot 10], [.fld 12 40 0], [.fld 11 40 0], [], [.slot 12], [.slot 11]] mixed (by decide +kernel) ?_ | refine awp_condM ?_ | refine And.intro ?_ ?_ | apply gQ_merge | apply gE_merge | exact EqV_w | exact EqE_w | exact EqV_ptr | exact EqE_ptr | exact EqV_msl | exact EqE_msl | exact EqV_agg | exact EqE_agg | exact EqV_fn | exact EqE_fn | exact EqV_gd | exact EqE_gd | refine gM_splitN ?_ ?_ | refine gM_split ?_ ?_ |  refine condM_splitDN ?_ ?_ | refine condM_splitD ?_ ?_ | refine condM_splitN ?_ ?_ | refine condM_split ?_ ?_ | refine condM_any ?_ ?_ | intro _) | (simp [*, ha0]))
  refine awp_for3 (fun (k : Nat) => k ≤ ns.length) [0, 1, 43, 44] (fun (k : Nat) => [(45, .w false false (.int .i64 k)), (7, .w false false (.int .i64 ((sumN (ns.take k) : Nat) : Int)))]) [] (fun (k : Nat) => []) (fun (k : Nat) => ns.length - k) (fun (_u : Unit) => True) [0, 1] (fun (_u : Unit) => [(7, .w false false (.int .i64 ((sumN ns : Nat) : Int)))]) [] (fun (_u : Unit) => []) (0) (Nat.zero_le _) (by simp) (by simp) (fun k hk => ?_) (fun _u hf => ?_)
  · by_cases hlt : k < ns.length
    · have ks := keep (sumN_succ ns k hlt)
      have hb := hsh k hlt
      have hb2 : sumN (ns.take k) ≤ 1000000 * (ns.take k).length := sumN_bd _ (fun j hj => by
        rw [take_len _ _ hk] at hj
        have := hsh j (by omega)
        have e : nth (ns.take k) j = nth ns j := by simp [nth, List.getD_eq_getElem?_getD, List.getElem?_take, hj]
        rw [e]; exact this)
      rw [take_len _ _ hk] at hb2
      have hg := toI_nth ns k hlt
      clear hsh kdiv
      repeat' (first | (with_reducible first | refine awp_seq ?_ | refine awp_blockS ?_ | refine awp_blockC ?_ | refine awp_blockR ?_ | refine awp_skip ?_ | refine awp_ret ?_ | refine awp_exit ?_ | refine awp_region ?_ | refine awp_regionS (id := 23) [0, 1, 2, 3, 5, 6, 7, 9, 10, 11] [4, 8, 12, 13, 14, 15] [[], [], [], [], [.slot 10], [.slot 10], [.slot 10], [.slot 10, .fld 12 40 0], [.slot 10, .fld 12 40 0], [.slot 10, .fld 12 40 0]] [[.slot 10], [.fld 12 40 0], [.fld 11 40 0], [], [.slot 12], [.slot 11]] mixed (by decide +kernel) ?_ | refine awp_condM ?_ | refine And.intro ?_ ?_ | apply gQ_merge | apply gE_merge | exact EqV_w | exact EqE_w | exact EqV_ptr | exact EqE_ptr | exact EqV_msl | exact EqE_msl | exact EqV_agg | exact EqE_agg | exact EqV_fn | exact EqE_fn | exact EqV_gd | exact EqE_gd | refine gM_splitN ?_ ?_ | refine gM_split ?_ ?_ |  refine condM_splitDN ?_ ?_ | refine condM_splitD ?_ ?_ | refine condM_splitN ?_ ?_ | refine condM_split ?_ ?_ | refine condM_any ?_ ?_ | intro _) | (simp [*, hlt, hg]))
      all_goals try first | exact inI64 (by omega) (by omega) | omega
      all_goals (refine loopK_normal _ _ _ _ _ (k + 1) _ ?_ (by first | omega | (dsimp only; omega) | (simp; omega)) ?_; (· omega); (refine le_of ?_ ?_ <;> first | trivial | (simp [*, (show sumN (ns.take (k + 1)) = _ from ks)]; done)))
    · have hke : k = ns.length := by omega
      subst hke
      clear hsh kdiv
      repeat' (first | (with_reducible first | refine awp_seq ?_ | refine awp_blockS ?_ | refine awp_blockC ?_ | refine awp_blockR ?_ | refine awp_skip ?_ | refine awp_ret ?_ | refine awp_exit ?_ | refine awp_region ?_ | refine awp_regionS (id := 23) [0, 1, 2, 3, 5, 6, 7, 9, 10, 11] [4, 8, 12, 13, 14, 15] [[], [], [], [], [.slot 10], [.slot 10], [.slot 10], [.slot 10, .fld 12 40 0], [.slot 10, .fld 12 40 0], [.slot 10, .fld 12 40 0]] [[.slot 10], [.fld 12 40 0], [.fld 11 40 0], [], [.slot 12], [.slot 11]] mixed (by decide +kernel) ?_ | refine awp_condM ?_ | refine And.intro ?_ ?_ | apply gQ_merge | apply gE_merge | exact EqV_w | exact EqE_w | exact EqV_ptr | exact EqE_ptr | exact EqV_msl | exact EqE_msl | exact EqV_agg | exact EqE_agg | exact EqV_fn | exact EqE_fn | exact EqV_gd | exact EqE_gd | refine gM_splitN ?_ ?_ | refine gM_split ?_ ?_ |  refine condM_splitDN ?_ ?_ | refine condM_splitD ?_ ?_ | refine condM_splitN ?_ ?_ | refine condM_split ?_ ?_ | refine condM_any ?_ ?_ | intro _) | (simp [*]))
      all_goals (refine finW_intro () ?_ ?_; (· trivial); (refine le_of ?_ ?_ <;> first | trivial | (simp [*, List.take_length]; done)))
  repeat' (first | (with_reducible first | refine awp_seq ?_ | refine awp_blockS ?_ | refine awp_blockC ?_ | refine awp_blockR ?_ | refine awp_skip ?_ | refine awp_ret ?_ | refine awp_exit ?_ | refine awp_region ?_ | refine awp_regionS (id := 23) [0, 1, 2, 3, 5, 6, 7, 9, 10, 11] [4, 8, 12, 13, 14, 15] [[], [], [], [], [.slot 10], [.slot 10], [.slot 10], [.slot 10, .fld 12 40 0], [.slot 10, .fld 12 40 0], [.slot 10, .fld 12 40 0]] [[.slot 10], [.fld 12 40 0], [.fld 11 40 0], [], [.slot 12], [.slot 11]] mixed (by decide +kernel) ?_ | refine awp_condM ?_ | refine And.intro ?_ ?_ | apply gQ_merge | apply gE_merge | exact EqV_w | exact EqE_w | exact EqV_ptr | exact EqE_ptr | exact EqV_msl | exact EqE_msl | exact EqV_agg | exact EqE_agg | exact EqV_fn | exact EqE_fn | exact EqV_gd | exact EqE_gd | refine gM_splitN ?_ ?_ | refine gM_split ?_ ?_ |  refine condM_splitDN ?_ ?_ | refine condM_splitD ?_ ?_ | refine condM_splitN ?_ ?_ | refine condM_split ?_ ?_ | refine condM_any ?_ ?_ | intro _) | (simp [*]))
  refine awp_for4 5 (fun (k : Nat) => k ≤ ns.length) [0, 7, 11, 12, 54, 55] (fun (k : Nat) => [(56, .w false false (.int .i64 k)), (10, .msl 2 k 1 0 k), (13, .w false false (.int .i64 ((a : Int) - (givenK a (sumN ns) (ns.take k) : Nat))))]) [] (fun (k : Nat) => [(0, [.msl 4 k 1 0 k]), (1, [.msl 3 k 1 0 k]), (2, iA (qsK a (sumN ns) (ns.take k))), (3, uA (rsK a (sumN ns) (ns.take k))), (4, iA (osK k))]) (fun (k : Nat) => ns.length - k) (fun (_u : Unit) => True) [11, 12] (fun (_u : Unit) => [(10, .msl 2 ns.length 1 0 ns.length), (13, .w false false (.int .i64 ((a - givenK a (sumN ns) ns : Nat) : Int)))]) [] (fun (_u : Unit) => [(0, [.msl 4 ns.length 1 0 ns.length]), (1, [.msl 3 ns.length 1 0 ns.length]), (2, iA (qsK a (sumN ns) ns)), (3, uC (rsK a (sumN ns) ns)), (4, iA (osK ns.length))]) (0) (Nat.zero_le _) (le_gen [] (by simp) (by simp)) (fun k hk => ?_) (fun _u hf => ?_)
  · by_cases hlt : k < ns.length
    · have hb := hsh k hlt
      have hg := toI_nth ns k hlt
      have c1 := mul_c a (nth ns k) (by omega) (by omega)
      have c2 := (show DivAll a ns from kdiv) k hlt
      have k1 := keep (qs_succ a (sumN ns) ns k hlt)
      have k2 := keep (rs_succ a (sumN ns) ns k hlt)
      have k3 := keep (os_succ k)
      have k4 := keep (given_succ a (sumN ns) ns k hlt)
      have hgm := given_mono a (sumN ns) ns (k + 1)
      rw [given_succ a (sumN ns) ns k hlt] at hgm
      have hq := div_bd (a := a) (nth_le_sum ns k hlt) hpos
      have htl := take_len ns k hk
      have hp : a * nth ns k ≤ 1000000000000000 * 1000000 := Nat.mul_le_mul ham hb
      have hh : a * nth ns k / 18446744073709551616 ≤ 1000000 := by omega
      have hl : a * nth ns k % 18446744073709551616 < 18446744073709551616 := Nat.mod_lt _ (by decide)
      have hr : a * nth ns k % sumN ns < sumN ns := Nat.mod_lt _ hpos
      clear hsh kdiv hp
      generalize a * nth ns k / 18446744073709551616 = hi at *
      generalize a * nth ns k % 18446744073709551616 = lo at *
      generalize a * nth ns k / sumN ns = q at *
      generalize a * nth ns k % sumN ns = r at *
      generalize givenK a (sumN ns) (ns.take k) = gk at *
      repeat' (first | (with_reducible first | refine awp_seq ?_ | refine awp_blockS ?_ | refine awp_blockC ?_ | refine awp_blockR ?_ | refine awp_skip ?_ | refine awp_ret ?_ | refine awp_exit ?_ | refine awp_region ?_ | refine awp_regionS (id := 23) [0, 1, 2, 3, 5, 6, 7, 9, 10, 11] [4, 8, 12, 13, 14, 15] [[], [], [], [], [.slot 10], [.slot 10], [.slot 10], [.slot 10, .fld 12 40 0], [.slot 10, .fld 12 40 0], [.slot 10, .fld 12 40 0]] [[.slot 10], [.fld 12 40 0], [.fld 11 40 0], [], [.slot 12], [.slot 11]] mixed (by decide +kernel) ?_ | refine awp_condM ?_ | refine And.intro ?_ ?_ | apply gQ_merge | apply gE_merge | exact EqV_w | exact EqE_w | exact EqV_ptr | exact EqE_ptr | exact EqV_msl | exact EqE_msl | exact EqV_agg | exact EqE_agg | exact EqV_fn | exact EqE_fn | exact EqV_gd | exact EqE_gd | refine gM_splitN ?_ ?_ | refine gM_split ?_ ?_ |  refine condM_splitDN ?_ ?_ | refine condM_splitD ?_ ?_ | refine condM_splitN ?_ ?_ | refine condM_split ?_ ?_ | refine condM_any ?_ ?_ | refine cw (c1) ?_ | refine cw (c2) ?_ | intro _) | (simp [*, hlt, hg, htl]) | (refine cw_eq (c1) ?_ ?_; (· (simp [*]; done))) | (refine cw_eq (c2) ?_ ?_; (· (simp [*]; done))))
      all_goals try first | exact inI64 (by omega) (by omega) | exact inU64 (by omega) (by omega) | omega
      have e13 : (a : Int) - ((gk : Int) + (q : Int)) = (a : Int) - (gk : Int) - (q : Int) := by omega
      all_goals (refine loopK_normal _ _ _ _ _ (k + 1) _ ?_ (by first | omega | (dsimp only; omega) | (simp; omega)) ?_; (· omega); (refine le_gen [] ?_ ?_ <;> first | trivial | (simp [*, (show qsK a (sumN ns) (ns.take (k + 1)) = _ from k1), (show rsK a (sumN ns) (ns.take (k + 1)) = _ from k2), (show osK (k + 1) = _ from k3), (show givenK a (sumN ns) (ns.take (k + 1)) = _ from k4), e13]; done)))
    · have hke : k = ns.length := by omega
      subst hke
      clear hsh kdiv
      have e13 : ((a - givenK a (sumN ns) ns : Nat) : Int) = (a : Int) - (givenK a (sumN ns) ns : Nat) := by omega
      repeat' (first | (with_reducible first | refine awp_seq ?_ | refine awp_blockS ?_ | refine awp_blockC ?_ | refine awp_blockR ?_ | refine awp_skip ?_ | refine awp_ret ?_ | refine awp_exit ?_ | refine awp_region ?_ | refine awp_regionS (id := 23) [0, 1, 2, 3, 5, 6, 7, 9, 10, 11] [4, 8, 12, 13, 14, 15] [[], [], [], [], [.slot 10], [.slot 10], [.slot 10], [.slot 10, .fld 12 40 0], [.slot 10, .fld 12 40 0], [.slot 10, .fld 12 40 0]] [[.slot 10], [.fld 12 40 0], [.fld 11 40 0], [], [.slot 12], [.slot 11]] mixed (by decide +kernel) ?_ | refine awp_condM ?_ | refine And.intro ?_ ?_ | apply gQ_merge | apply gE_merge | exact EqV_w | exact EqE_w | exact EqV_ptr | exact EqE_ptr | exact EqV_msl | exact EqE_msl | exact EqV_agg | exact EqE_agg | exact EqV_fn | exact EqE_fn | exact EqV_gd | exact EqE_gd | refine gM_splitN ?_ ?_ | refine gM_split ?_ ?_ |  refine condM_splitDN ?_ ?_ | refine condM_splitD ?_ ?_ | refine condM_splitN ?_ ?_ | refine condM_split ?_ ?_ | refine condM_any ?_ ?_ | intro _) | (simp [*]))
      all_goals (refine finW_intro () ?_ ?_; (· trivial); (refine le_gen [] ?_ ?_ <;> first | trivial | (simp [*, List.take_length, e13, ← uA_uC]; done)))
  clear kdiv hsh
  obtain ⟨N, hN⟩ : ∃ N, ns.length = N + 1 := ⟨ns.length - 1, by omega⟩
  have hsp : splitS a ns = bump (qsK a (sumN ns) ns) ((orderN (rsK a (sumN ns) ns) N).take (a - givenK a (sumN ns) ns)) := by unfold splitS; rw [hN]; rfl
  rw [hsp]
  clear hsp hf
  simp only [hN, iA_fC]
  have hrl : (rsK a (sumN ns) ns).length = N + 1 := by rw [rs_len]; exact hN
  have hql : (qsK a (sumN ns) ns).length = N + 1 := by rw [qs_len]; exact hN
  have hol := orderN_len (rsK a (sumN ns) ns) N
  have holt := orderN_lt (rsK a (sumN ns) ns) N
  have hsl := sorted_len (rsK a (sumN ns) ns) N
  generalize hL : a - givenK a (sumN ns) ns = L at *
  rw [hN] at hg2
  have hL2 : L ≤ N + 1 := by omega
  have hqb : ∀ j, j < (qsK a (sumN ns) ns).length → 0 ≤ nth (qsK a (sumN ns) ns) j ∧ nth (qsK a (sumN ns) ns) j ≤ 1000000000000000 := by
    intro j hj
    rw [qs_len] at hj
    have hq := div_bd (a := a) (nth_le_sum ns j hj) hpos
    have e : nth (qsK a (sumN ns) ns) j = ((a * nth ns j / sumN ns : Nat) : Int) := by
      simp [qsK, nth, List.getD_eq_getElem?_getD, List.getElem?_map, List.getElem?_eq_getElem hj]
    rw [e]
    clear e
    generalize a * nth ns j / sumN ns = q at *
    omega
  generalize rsK a (sumN ns) ns = rs at *
  generalize qsK a (sumN ns) ns = qs at *
  clear hS hpos hti hg1 hL
  repeat' (first | (with_reducible first | refine awp_sortS (N := N) (iV := 0) (iW := 1) (iO := 4) (iR := 3) (rs := rs) sortC (lessC _ (by omega) _) (List.finRange (N + 1)) (S := sorted rs N) rfl (by simp) hrl (by omega) (by simp) (by simp) (by simp) (by simp) (by simp) (by simp) (by simp) (by simp) (by decide) (by decide) (by decide) (by decide) (by decide) (by decide) ?_ | refine awp_seq ?_ | refine awp_blockS ?_ | refine awp_blockC ?_ | refine awp_blockR ?_ | refine awp_skip ?_ | refine awp_ret ?_ | refine awp_exit ?_ | refine awp_region ?_ | refine awp_regionS (id := 23) [0, 1, 2, 3, 5, 6, 7, 9, 10, 11] [4, 8, 12, 13, 14, 15] [[], [], [], [], [.slot 10], [.slot 10], [.slot 10], [.slot 10, .fld 12 40 0], [.slot 10, .fld 12 40 0], [.slot 10, .fld 12 40 0]] [[.slot 10], [.fld 12 40 0], [.fld 11 40 0], [], [.slot 12], [.slot 11]] mixed (by decide +kernel) ?_ | refine awp_condM ?_ | refine And.intro ?_ ?_ | apply gQ_merge | apply gE_merge | exact EqV_w | exact EqE_w | exact EqV_ptr | exact EqE_ptr | exact EqV_msl | exact EqE_msl | exact EqV_agg | exact EqE_agg | exact EqV_fn | exact EqE_fn | exact EqV_gd | exact EqE_gd | refine gM_splitN ?_ ?_ | refine gM_split ?_ ?_ |  refine condM_splitDN ?_ ?_ | refine condM_splitD ?_ ?_ | refine condM_splitN ?_ ?_ | refine condM_split ?_ ?_ | refine condM_any ?_ ?_ | intro _) | (simp [*, hL2]))
  · omega
  refine awp_for3 (fun (k : Nat) => k ≤ L) [10, 101, 102] (fun (k : Nat) => [(103, .w false false (.int .i64 k))]) [4] (fun (k : Nat) => [(2, iA (bump qs ((orderN rs N).take k)))]) (fun (k : Nat) => L - k) (fun (_u : Unit) => True) [10] (fun (_u : Unit) => []) [] (fun (_u : Unit) => [(2, iA (bump qs ((orderN rs N).take L)))]) (0) (Nat.zero_le _) (by simp) (by simp) (fun k hk => ?_) (fun _u hf => ?_)
  · by_cases hlt : k < L
    · have h1 := holt k (by omega)
      have hk1 : k < N + 1 := by omega
      have kb := keep (bump_snoc (nth (orderN rs N) k) ((orderN rs N).take k) qs)
      have kt := keep (take_succ_nth (orderN rs N) k (by omega))
      have hog := fN_order rs N k
      have hbb := bump_bd 1000000000000000 N ((orderN rs N).take k) qs (fun i hi => by
        obtain ⟨j, hj, rfl⟩ := mem_nth hi
        rw [take_len _ _ (by omega)] at hj
        rw [nth_take _ _ _ hj, hql]; exact holt j (by omega)) hqb (nth (orderN rs N) k) (by rw [hql]; omega)
      rw [take_len _ _ (by omega)] at hbb
      generalize nth (orderN rs N) k = x at *
      have hbl : (bump qs ((orderN rs N).take k)).length = N + 1 := by rw [bump_len]; exact hql
      generalize bump qs ((orderN rs N).take k) = out at *
      clear holt
      repeat' (first | (with_reducible first | refine awp_seq ?_ | refine awp_blockS ?_ | refine awp_blockC ?_ | refine awp_blockR ?_ | refine awp_skip ?_ | refine awp_ret ?_ | refine awp_exit ?_ | refine awp_region ?_ | refine awp_regionS (id := 23) [0, 1, 2, 3, 5, 6, 7, 9, 10, 11] [4, 8, 12, 13, 14, 15] [[], [], [], [], [.slot 10], [.slot 10], [.slot 10], [.slot 10, .fld 12 40 0], [.slot 10, .fld 12 40 0], [.slot 10, .fld 12 40 0]] [[.slot 10], [.fld 12 40 0], [.fld 11 40 0], [], [.slot 12], [.slot 11]] mixed (by decide +kernel) ?_ | refine awp_condM ?_ | refine And.intro ?_ ?_ | apply gQ_merge | apply gE_merge | exact EqV_w | exact EqE_w | exact EqV_ptr | exact EqE_ptr | exact EqV_msl | exact EqE_msl | exact EqV_agg | exact EqE_agg | exact EqV_fn | exact EqE_fn | exact EqV_gd | exact EqE_gd | refine gM_splitN ?_ ?_ | refine gM_split ?_ ?_ |  refine condM_splitDN ?_ ?_ | refine condM_splitD ?_ ?_ | refine condM_splitN ?_ ?_ | refine condM_split ?_ ?_ | refine condM_any ?_ ?_ | intro _) | (simp [*, hlt, hk1, hog, hbl]))
      all_goals try first | exact inI64 (by omega) (by omega) | omega
      all_goals (refine loopK_normal _ _ _ _ _ (k + 1) _ ?_ (by first | omega | (dsimp only; omega) | (simp; omega)) ?_; (· omega); (refine le_of ?_ ?_ <;> first | trivial | (simp [*, (show (orderN rs N).take (k + 1) = _ from kt), (show bump qs ((orderN rs N).take k ++ [x]) = _ from kb)]; done)))
    · have hke : k = L := by omega
      subst hke
      repeat' (first | (with_reducible first | refine awp_seq ?_ | refine awp_blockS ?_ | refine awp_blockC ?_ | refine awp_blockR ?_ | refine awp_skip ?_ | refine awp_ret ?_ | refine awp_exit ?_ | refine awp_region ?_ | refine awp_regionS (id := 23) [0, 1, 2, 3, 5, 6, 7, 9, 10, 11] [4, 8, 12, 13, 14, 15] [[], [], [], [], [.slot 10], [.slot 10], [.slot 10], [.slot 10, .fld 12 40 0], [.slot 10, .fld 12 40 0], [.slot 10, .fld 12 40 0]] [[.slot 10], [.fld 12 40 0], [.fld 11 40 0], [], [.slot 12], [.slot 11]] mixed (by decide +kernel) ?_ | refine awp_condM ?_ | refine And.intro ?_ ?_ | apply gQ_merge | apply gE_merge | exact EqV_w | exact EqE_w | exact EqV_ptr | exact EqE_ptr | exact EqV_msl | exact EqE_msl | exact EqV_agg | exact EqE_agg | exact EqV_fn | exact EqE_fn | exact EqV_gd | exact EqE_gd | refine gM_splitN ?_ ?_ | refine gM_split ?_ ?_ |  refine condM_splitDN ?_ ?_ | refine condM_splitD ?_ ?_ | refine condM_splitN ?_ ?_ | refine condM_split ?_ ?_ | refine condM_any ?_ ?_ | intro _) | (simp [*]))
      all_goals (refine finW_intro () ?_ ?_; (· trivial); (refine le_of ?_ ?_ <;> first | trivial | (simp [*]; done)))
  · repeat' (first | (with_reducible first | refine awp_seq ?_ | refine awp_blockS ?_ | refine awp_blockC ?_ | refine awp_blockR ?_ | refine awp_skip ?_ | refine awp_ret ?_ | refine awp_exit ?_ | refine awp_region ?_ | refine awp_regionS (id := 23) [0, 1, 2, 3, 5, 6, 7, 9, 10, 11] [4, 8, 12, 13, 14, 15] [[], [], [], [], [.slot 10], [.slot 10], [.slot 10], [.slot 10, .fld 12 40 0], [.slot 10, .fld 12 40 0], [.slot 10, .fld 12 40 0]] [[.slot 10], [.fld 12 40 0], [.fld 11 40 0], [], [.slot 12], [.slot 11]] mixed (by decide +kernel) ?_ | refine awp_condM ?_ | refine And.intro ?_ ?_ | apply gQ_merge | apply gE_merge | exact EqV_w | exact EqE_w | exact EqV_ptr | exact EqE_ptr | exact EqV_msl | exact EqE_msl | exact EqV_agg | exact EqE_agg | exact EqV_fn | exact EqE_fn | exact EqV_gd | exact EqE_gd | refine gM_splitN ?_ ?_ | refine gM_split ?_ ?_ |  refine condM_splitDN ?_ ?_ | refine condM_splitD ?_ ?_ | refine condM_splitN ?_ ?_ | refine condM_split ?_ ?_ | refine condM_any ?_ ?_ | intro _) | (simp [*]))
end Go.Proofs.YtpjhpmpbdfeajaaGreatDoor

