/- Contracts of functions for this claim: lemmas alone. -/
import Derived.Test.YtlcimflkjfbaoaaGreatP13
import Derived.Test.YtlcimflkjfbaoaaGreatP3
import Derived.Test.YtlcimflkjfbaoaaGreatLj
set_option linter.unusedSimpArgs false
set_option linter.unusedVariables false
namespace Go.Proofs.YtlcimflkjfbaoaaGreat
open Go Go.Fi
set_option maxRecDepth 20000

structure SplitIn (a : Nat) (ns : List Nat) : Prop where
  len : ns.length ≤ 20
  pos : 0 < sumN ns
  share : ∀ k, k < ns.length → nth ns k ≤ 1000000
  amt : a ≤ 1000000000000000
/-- what Div64 gives for each share -/
def DivAll (a : Nat) (ns : List Nat) : Prop := ∀ k, k < ns.length → RealCall Tryz.prog 68 [.int .u64 ((a * nth ns k / 18446744073709551616 : Nat) : Int), .int .u64 ((a * nth ns k % 18446744073709551616 : Nat) : Int), .int .u64 ((sumN ns : Nat) : Int)] (.tup [.int .u64 ((a * nth ns k / sumN ns : Nat) : Int), .int .u64 ((a * nth ns k % sumN ns : Nat) : Int)]) true
theorem sumN_bd : ∀ (ns : List Nat), (∀ k, k < ns.length → nth ns k ≤ 1000000) → sumN ns ≤ 1000000 * ns.length
  | [], _ => by simp
  | x :: r, h => by
    have h1 := sumN_bd r (fun k hk => by have := h (k + 1) (by simp; omega); simpa using this)
    have h2 := h 0 (by simp)
    simp only [nth_zero] at h2
    simp only [sumN, List.length_cons]; omega
theorem div_bd {a s S : Nat} (h : s ≤ S) (hS : 0 < S) : a * s / S ≤ a := by
  have : a * s / S ≤ a * S / S := Nat.div_le_div_right (Nat.mul_le_mul_left a h)
  rwa [Nat.mul_div_cancel _ hS] at this
theorem nth_le_sum : ∀ (ns : List Nat) (k : Nat), k < ns.length → nth ns k ≤ sumN ns
  | [], k, h => by simp at h
  | x :: r, 0, _ => by simp [sumN]
  | x :: r, k + 1, h => by
    have := nth_le_sum r k (by simpa using h)
    simp only [sumN, nth_succ]; omega
theorem given_mono (a S : Nat) (ns : List Nat) (k : Nat) : givenK a S (ns.take k) ≤ givenK a S ns := by
  have key : ∀ (l r : List Nat), givenK a S l ≤ givenK a S (l ++ r) := by
    intro l r
    induction l with
    | nil => simp
    | cons x l ih => simp only [List.cons_append, givenK]; omega
  have := key (ns.take k) (ns.drop k)
  rwa [List.take_append_drop] at this
set_option maxHeartbeats 16000000 in
theorem split_mk (a : Nat) (ns : List Nat) (h : SplitIn a ns) (hdiv : DivAll a ns) : MkCall Tryz.prog 43 [.int .i64 (a : Int), .sl ns.length (ints (toI ns))] [iA (splitS a ns)] (.msl 0 ns.length 1 0 ns.length) := by
  have hlen := h.len
  have hpos := h.pos
  have hsh := h.share
  have ham := h.amt
  obtain ⟨hg1, hg2⟩ := left_bd a ns hpos
  have hS := sumN_bd ns hsh
  have hn0 : 0 < ns.length := by omega
  clear h
  have kdiv := keep hdiv
  clear hdiv
  have hti := toI_len ns
  have ha0 : ¬ (a : Int) < 0 := by omega
  refine mkcall_intro 2 [] Tryz.func43 (by kernel_rfl) rfl (Nat.le_of_ble_eq_true (by kernel_rfl)) (by simp) (by simp) ?_
  simp only [Tryz.results43, Tryz.ntmps43]
  repeat' (first | (with_reducible first | refine awp_seq ?_ | refine awp_blockS ?_ | refine awp_blockC ?_ | refine awp_blockR ?_ | refine awp_skip ?_ | refine awp_ret ?_ | refine awp_exit ?_ | refine awp_region ?_ | refine awp_regionS (id := 23) [0, 1, 2, 3, 5, 6, 7, 9, 10, 11] [4, 8, 12, 13, 14, 15] [[], [], [], [], [.slot 10], [.slot 10], [.slot 10], [.slot 10, .fld 12 31 0], [.slot 10, .fld 12 31 0], [.slot 10, .fld 12 31 0]] [[.slot 10], [.fld 12 31 0], [.fld 11 31 0], [], [.slot 12], [.slot 11]] mixed (by decide +kernel) ?_ | refine awp_condM ?_ | refine And.intro ?_ ?_ | apply gQ_merge | apply gE_merge | exact EqV_w | exact EqE_w | exact EqV_ptr | exact EqE_ptr | exact EqV_msl | exact EqE_msl | exact EqV_agg | exact EqE_agg | exact EqV_fn | exact EqE_fn | exact EqV_gd | exact EqE_gd | refine gM_splitN ?_ ?_ | refine gM_split ?_ ?_ |  refine condM_splitDN ?_ ?_ | refine condM_splitD ?_ ?_ | refine condM_splitN ?_ ?_ | refine condM_split ?_ ?_ | refine condM_any ?_ ?_ | intro _) | (simp [*, ha0]))
  refine awp_for3 (fun (k : Nat) => k ≤ ns.length) [0, 1, 43, 44] (fun (k : Nat) => [(45, .w false false (.int .i64 k)), (7, .w false false (.int .i64 ((sumN (ns.take k) : Nat) : Int)))]) [] (fun (k : Nat) => []) (fun (k : Nat) => ns.length - k) (fun (_u : Unit) => True) [0, 1] (fun (_u : Unit) => [(7, .w false false (.int .i64 ((sumN ns : Nat) : Int)))]) [] (fun (_u : Unit) => []) (0) (Nat.zero_le _) (by simp) (by simp) (fun k hk => ?_) (fun _u hf => ?_)
  · by_cases hlt : k < ns.length
    · have ks := keep (sumN_succ ns k hlt)
      have hb := hsh k hlt
      have hb2 : sumN (ns.take k) ≤ 1000000 * (ns.take k).length := sumN_bd _ (fun j hj => by
        rw [take_len _ _ hk] at hj
        have := hsh j (by omega)
        have e : nth (ns.take k) j = nth ns j := by simp [nth, List.getD_eq_getElem?_getD, List.getElem?_take, hj]
        rw [e]; exact this)
      rw [take_len _ _ hk] at hb2
      have hg := toI_nth ns k hlt
      clear hsh kdiv
      repeat' (first | (with_reducible first | refine awp_seq ?_ | refine awp_blockS ?_ | refine awp_blockC ?_ | refine awp_blockR ?_ | refine awp_skip ?_ | refine awp_ret ?_ | refine awp_exit ?_ | refine awp_region ?_ | refine awp_regionS (id := 23) [0, 1, 2, 3, 5, 6, 7, 9, 10, 11] [4, 8, 12, 13, 14, 15] [[], [], [], [], [.slot 10], [.slot 10], [.slot 10], [.slot 10, .fld 12 31 0], [.slot 10, .fld 12 31 0], [.slot 10, .fld 12 31 0]] [[.slot 10], [.fld 12 31 0], [.fld 11 31 0], [], [.slot 12], [.slot 11]] mixed (by decide +kernel) ?_ | refine awp_condM ?_ | refine And.intro ?_ ?_ | apply gQ_merge | apply gE_merge | exact EqV_w | exact EqE_w | exact EqV_ptr | exact EqE_ptr | exact EqV_msl | exact EqE_msl | exact EqV_agg | exact EqE_agg | exact EqV_fn | exact EqE_fn | exact EqV_gd | exact EqE_gd | refine gM_splitN ?_ ?_ | refine gM_split ?_ ?_ |  refine condM_splitDN ?_ ?_ | refine condM_splitD ?_ ?_ | refine condM_splitN ?_ ?_ | refine condM_split ?_ ?_ | refine condM_any ?_ ?_ | intro _) | (simp [*, hlt, hg]))
      all_goals try first | exact inI64 (by omega) (by omega) | omega
      all_goals (refine loopK_normal _ _ _ _ _ (k + 1) _ ?_ (by first | omega | (dsimp only; omega) | (simp; omega)) ?_; (· omega); (refine le_of ?_ ?_ <;> first | trivial | (simp [*, (show sumN (ns.take (k + 1)) = _ from ks)]; done)))
    · have hke : k = ns.length := by omega
      subst hke
      clear hsh kdiv
      repeat' (first | (with_reducible first | refine awp_seq ?_ | refine awp_blockS ?_ | refine awp_blockC ?_ | refine awp_blockR ?_ | refine awp_skip ?_ | refine awp_ret ?_ | refine awp_exit ?_ | refine awp_region ?_ | refine awp_regionS (id := 23) [0, 1, 2, 3, 5, 6, 7, 9, 10, 11] [4, 8, 12, 13, 14, 15] [[], [], [], [], [.slot 10], [.slot 10], [.slot 10], [.slot 10, .fld 12 31 0], [.slot 10, .fld 12 31 0], [.slot 10, .fld 12 31 0]] [[.slot 10], [.fld 12 31 0], [.fld 11 31 0], [], [.slot 12], [.slot 11]] mixed (by decide +kernel) ?_ | refine awp_condM ?_ | refine And.intro ?_ ?_ | apply gQ_merge | apply gE_merge | exact EqV_w | exact EqE_w | exact EqV_ptr | exact EqE_ptr | exact EqV_msl | exact EqE_msl | exact EqV_agg | exact EqE_agg | exact EqV_fn | exact EqE_fn | exact EqV_gd | exact EqE_gd | refine gM_splitN ?_ ?_ | refine gM_split ?_ ?_ |  refine condM_splitDN ?_ ?_ | refine condM_splitD ?_ ?_ | refine condM_splitN ?_ ?_ | refine condM_split ?_ ?_ | refine condM_any ?_ ?_ | intro _) | (simp [*]))
      all_goals (refine finW_intro () ?_ ?_; (· trivial); (refine le_of ?_ ?_ <;> first | trivial | (simp [*, List.take_length]; done)))
  repeat' (first | (with_reducible first | refine awp_seq ?_ | refine awp_blockS ?_ | refine awp_blockC ?_ | refine awp_blockR ?_ | refine awp_skip ?_ | refine awp_ret ?_ | refine awp_exit ?_ | refine awp_region ?_ | refine awp_regionS (id := 23) [0, 1, 2, 3, 5, 6, 7, 9, 10, 11] [4, 8, 12, 13, 14, 15] [[], [], [], [], [.slot 10], [.slot 10], [.slot 10], [.slot 10, .fld 12 31 0], [.slot 10, .fld 12 31 0], [.slot 10, .fld 12 31 0]] [[.slot 10], [.fld 12 31 0], [.fld 11 31 0], [], [.slot 12], [.slot 11]] mixed (by decide +kernel) ?_ | refine awp_condM ?_ | refine And.intro ?_ ?_ | apply gQ_merge | apply gE_merge | exact EqV_w | exact EqE_w | exact EqV_ptr | exact EqE_ptr | exact EqV_msl | exact EqE_msl | exact EqV_agg | exact EqE_agg | exact EqV_fn | exact EqE_fn | exact EqV_gd | exact EqE_gd | refine gM_splitN ?_ ?_ | refine gM_split ?_ ?_ |  refine condM_splitDN ?_ ?_ | refine condM_splitD ?_ ?_ | refine condM_splitN ?_ ?_ | refine condM_split ?_ ?_ | refine condM_any ?_ ?_ | intro _) | (simp [*]))
  refine awp_for4 5 (fun (k : Nat) => k ≤ ns.length) [0, 7, 11, 12, 54, 55] (fun (k : Nat) => [(56, .w false false (.int .i64 k)), (10, .msl 2 k 1 0 k), (13, .w false false (.int .i64 ((a : Int) - (givenK a (sumN ns) (ns.take k) : Nat))))]) [] (fun (k : Nat) => [(0, [.msl 4 k 1 0 k]), (1, [.msl 3 k 1 0 k]), (2, iA (qsK a (sumN ns) (ns.take k))), (3, uA (rsK a (sumN ns) (ns.take k))), (4, iA (osK k))]) (fun (k : Nat) => ns.length - k) (fun (_u : Unit) => True) [11, 12] (fun (_u : Unit) => [(10, .msl 2 ns.length 1 0 ns.length), (13, .w false false (.int .i64 ((a - givenK a (sumN ns) ns : Nat) : Int)))]) [] (fun (_u : Unit) => [(0, [.msl 4 ns.length 1 0 ns.length]), (1, [.msl 3 ns.length 1 0 ns.length]), (2, iA (qsK a (sumN ns) ns)), (3, uC (rsK a (sumN ns) ns)), (4, iA (osK ns.length))]) (0) (Nat.zero_le _) (le_gen [] (by simp) (by simp)) (fun k hk => ?_) (fun _u hf => ?_)
  · by_cases hlt : k < ns.length
    · have hb := hsh k hlt
      have hg := toI_nth ns k hlt
      have c1 := mul_c a (nth ns k) (by omega) (by omega)
      have c2 := (show DivAll a ns from kdiv) k hlt
      have k1 := keep (qs_succ a (sumN ns) ns k hlt)
      have k2 := keep (rs_succ a (sumN ns) ns k hlt)
      have k3 := keep (os_succ k)
      have k4 := keep (given_succ a (sumN ns) ns k hlt)
      have hgm := given_mono a (sumN ns) ns (k + 1)
      rw [given_succ a (sumN ns) ns k hlt] at hgm
      have hq := div_bd (a := a) (nth_le_sum ns k hlt) hpos
      have htl := take_len ns k hk
      have hp : a * nth ns k ≤ 1000000000000000 * 1000000 := Nat.mul_le_mul ham hb
      have hh : a * nth ns k / 18446744073709551616 ≤ 1000000 := by omega
      have hl : a * nth ns k % 18446744073709551616 < 18446744073709551616 := Nat.mod_lt _ (by decide)
      have hr : a * nth ns k % sumN ns < sumN ns := Nat.mod_lt _ hpos
      clear hsh kdiv hp
      generalize a * nth ns k / 18446744073709551616 = hi at *
      generalize a * nth ns k % 18446744073709551616 = lo at *
      generalize a * nth ns k / sumN ns = q at *
      generalize a * nth ns k % sumN ns = r at *
      generalize givenK a (sumN ns) (ns.take k) = gk at *
      repeat' (first | (with_reducible first | refine awp_seq ?_ | refine awp_blockS ?_ | refine awp_blockC ?_ | refine awp_blockR ?_ | refine awp_skip ?_ | refine awp_ret ?_ | refine awp_exit ?_ | refine awp_region ?_ | refine awp_regionS (id := 23) [0, 1, 2, 3, 5, 6, 7, 9, 10, 11] [4, 8, 12, 13, 14, 15] [[], [], [], [], [.slot 10], [.slot 10], [.slot 10], [.slot 10, .fld 12 31 0], [.slot 10, .fld 12 31 0], [.slot 10, .fld 12 31 0]] [[.slot 10], [.fld 12 31 0], [.fld 11 31 0], [], [.slot 12], [.slot 11]] mixed (by decide +kernel) ?_ | refine awp_condM ?_ | refine And.intro ?_ ?_ | apply gQ_merge | apply gE_merge | exact EqV_w | exact EqE_w | exact EqV_ptr | exact EqE_ptr | exact EqV_msl | exact EqE_msl | exact EqV_agg | exact EqE_agg | exact EqV_fn | exact EqE_fn | exact EqV_gd | exact EqE_gd | refine gM_splitN ?_ ?_ | refine gM_split ?_ ?_ |  refine condM_splitDN ?_ ?_ | refine condM_splitD ?_ ?_ | refine condM_splitN ?_ ?_ | refine condM_split ?_ ?_ | refine condM_any ?_ ?_ | refine cw (c1) ?_ | refine cw (c2) ?_ | intro _) | (simp [*, hlt, hg, htl]) | (refine cw_eq (c1) ?_ ?_; (· (simp [*]; done))) | (refine cw_eq (c2) ?_ ?_; (· (simp [*]; done))))
      all_goals try first | exact inI64 (by omega) (by omega) | exact inU64 (by omega) (by omega) | omega
      have e13 : (a : Int) - ((gk : Int) + (q : Int)) = (a : Int) - (gk : Int) - (q : Int) := by omega
      all_goals (refine loopK_normal _ _ _ _ _ (k + 1) _ ?_ (by first | omega | (dsimp only; omega) | (simp; omega)) ?_; (· omega); (refine le_gen [] ?_ ?_ <;> first | trivial | (simp [*, (show qsK a (sumN ns) (ns.take (k + 1)) = _ from k1), (show rsK a (sumN ns) (ns.take (k + 1)) = _ from k2), (show osK (k + 1) = _ from k3), (show givenK a (sumN ns) (ns.take (k + 1)) = _ from k4), e13]; done)))
    · have hke : k = ns.length := by omega
      subst hke
      clear hsh kdiv
      have e13 : ((a - givenK a (sumN ns) ns : Nat) : Int) = (a : Int) - (givenK a (sumN ns) ns : Nat) := by omega
      repeat' (first | (with_reducible first | refine awp_seq ?_ | refine awp_blockS ?_ | refine awp_blockC ?_ | refine awp_blockR ?_ | refine awp_skip ?_ | refine awp_ret ?_ | refine awp_exit ?_ | refine awp_region ?_ | refine awp_regionS (id := 23) [0, 1, 2, 3, 5, 6, 7, 9, 10, 11] [4, 8, 12, 13, 14, 15] [[], [], [], [], [.slot 10], [.slot 10], [.slot 10], [.slot 10, .fld 12 31 0], [.slot 10, .fld 12 31 0], [.slot 10, .fld 12 31 0]] [[.slot 10], [.fld 12 31 0], [.fld 11 31 0], [], [.slot 12], [.slot 11]] mixed (by decide +kernel) ?_ | refine awp_condM ?_ | refine And.intro ?_ ?_ | apply gQ_merge | apply gE_merge | exact EqV_w | exact EqE_w | exact EqV_ptr | exact EqE_ptr | exact EqV_msl | exact EqE_msl | exact EqV_agg | exact EqE_agg | exact EqV_fn | exact EqE_fn | exact EqV_gd | exact EqE_gd | refine gM_splitN ?_ ?_ | refine gM_split ?_ ?_ |  refine condM_splitDN ?_ ?_ | refine condM_splitD ?_ ?_ | refine condM_splitN ?_ ?_ | refine condM_split ?_ ?_ | refine condM_any ?_ ?_ | intro _) | (simp [*]))
      all_goals (refine finW_intro () ?_ ?_; (· trivial); (refine le_gen [] ?_ ?_ <;> first | trivial | (simp [*, List.take_length, e13, ← uA_uC]; done)))
  clear kdiv hsh
  obtain ⟨N, hN⟩ : ∃ N, ns.length = N + 1 := ⟨ns.length - 1, by omega⟩
  have hsp : splitS a ns = bump (qsK a (sumN ns) ns) ((orderN (rsK a (sumN ns) ns) N).take (a - givenK a (sumN ns) ns)) := by unfold splitS; rw [hN]; rfl
  rw [hsp]
  clear hsp hf
  simp only [hN, iA_fC]
  have hrl : (rsK a (sumN ns) ns).length = N + 1 := by rw [rs_len]; exact hN
  have hql : (qsK a (sumN ns) ns).length = N + 1 := by rw [qs_len]; exact hN
  have hol := orderN_len (rsK a (sumN ns) ns) N
  have holt := orderN_lt (rsK a (sumN ns) ns) N
  have hsl := sorted_len (rsK a (sumN ns) ns) N
  generalize hL : a - givenK a (sumN ns) ns = L at *
  rw [hN] at hg2
  have hL2 : L ≤ N + 1 := by omega
  have hqb : ∀ j, j < (qsK a (sumN ns) ns).length → 0 ≤ nth (qsK a (sumN ns) ns) j ∧ nth (qsK a (sumN ns) ns) j ≤ 1000000000000000 := by
    intro j hj
    rw [qs_len] at hj
    have hq := div_bd (a := a) (nth_le_sum ns j hj) hpos
    have e : nth (qsK a (sumN ns) ns) j = ((a * nth ns j / sumN ns : Nat) : Int) := by
      simp [qsK, nth, List.getD_eq_getElem?_getD, List.getElem?_map, List.getElem?_eq_getElem hj]
    rw [e]
    clear e
    generalize a * nth ns j / sumN ns = q at *
    omega
  generalize rsK a (sumN ns) ns = rs at *
  generalize qsK a (sumN ns) ns = qs at *
  clear hS hpos hti hg1 hL
  repeat' (first | (with_reducible first | refine awp_sortS (N := N) (iV := 0) (iW := 1) (iO := 4) (iR := 3) (rs := rs) sortC (lessC _ (by omega) _) (List.finRange (N + 1)) (S := sorted rs N) rfl (by simp) hrl (by omega) (by simp) (by simp) (by simp) (by simp) (by simp) (by simp) (by simp) (by simp) (by decide) (by decide) (by decide) (by decide) (by decide) (by decide) ?_ | refine awp_seq ?_ | refine awp_blockS ?_ | refine awp_blockC ?_ | refine awp_blockR ?_ | refine awp_skip ?_ | refine awp_ret ?_ | refine awp_exit ?_ | refine awp_region ?_ | refine awp_regionS (id := 23) [0, 1, 2, 3, 5, 6, 7, 9, 10, 11] [4, 8, 12, 13, 14, 15] [[], [], [], [], [.slot 10], [.slot 10], [.slot 10], [.slot 10, .fld 12 31 0], [.slot 10, .fld 12 31 0], [.slot 10, .fld 12 31 0]] [[.slot 10], [.fld 12 31 0], [.fld 11 31 0], [], [.slot 12], [.slot 11]] mixed (by decide +kernel) ?_ | refine awp_condM ?_ | refine And.intro ?_ ?_ | apply gQ_merge | apply gE_merge | exact EqV_w | exact EqE_w | exact EqV_ptr | exact EqE_ptr | exact EqV_msl | exact EqE_msl | exact EqV_agg | exact EqE_agg | exact EqV_fn | exact EqE_fn | exact EqV_gd | exact EqE_gd | refine gM_splitN ?_ ?_ | refine gM_split ?_ ?_ |  refine condM_splitDN ?_ ?_ | refine condM_splitD ?_ ?_ | refine condM_splitN ?_ ?_ | refine condM_split ?_ ?_ | refine condM_any ?_ ?_ | intro _) | (simp [*, hL2]))
  · omega
  refine awp_for3 (fun (k : Nat) => k ≤ L) [10, 101, 102] (fun (k : Nat) => [(103, .w false false (.int .i64 k))]) [4] (fun (k : Nat) => [(2, iA (bump qs ((orderN rs N).take k)))]) (fun (k : Nat) => L - k) (fun (_u : Unit) => True) [10] (fun (_u : Unit) => []) [] (fun (_u : Unit) => [(2, iA (bump qs ((orderN rs N).take L)))]) (0) (Nat.zero_le _) (by simp) (by simp) (fun k hk => ?_) (fun _u hf => ?_)
  · by_cases hlt : k < L
    · have h1 := holt k (by omega)
      have hk1 : k < N + 1 := by omega
      have kb := keep (bump_snoc (nth (orderN rs N) k) ((orderN rs N).take k) qs)
      have kt := keep (take_succ_nth (orderN rs N) k (by omega))
      have hog := fN_order rs N k
      have hbb := bump_bd 1000000000000000 N ((orderN rs N).take k) qs (fun i hi => by
        obtain ⟨j, hj, rfl⟩ := mem_nth hi
        rw [take_len _ _ (by omega)] at hj
        rw [nth_take _ _ _ hj, hql]; exact holt j (by omega)) hqb (nth (orderN rs N) k) (by rw [hql]; omega)
      rw [take_len _ _ (by omega)] at hbb
      generalize nth (orderN rs N) k = x at *
      have hbl : (bump qs ((orderN rs N).take k)).length = N + 1 := by rw [bump_len]; exact hql
      generalize bump qs ((orderN rs N).take k) = out at *
      clear holt
      repeat' (first | (with_reducible first | refine awp_seq ?_ | refine awp_blockS ?_ | refine awp_blockC ?_ | refine awp_blockR ?_ | refine awp_skip ?_ | refine awp_ret ?_ | refine awp_exit ?_ | refine awp_region ?_ | refine awp_regionS (id := 23) [0, 1, 2, 3, 5, 6, 7, 9, 10, 11] [4, 8, 12, 13, 14, 15] [[], [], [], [], [.slot 10], [.slot 10], [.slot 10], [.slot 10, .fld 12 31 0], [.slot 10, .fld 12 31 0], [.slot 10, .fld 12 31 0]] [[.slot 10], [.fld 12 31 0], [.fld 11 31 0], [], [.slot 12], [.slot 11]] mixed (by decide +kernel) ?_ | refine awp_condM ?_ | refine And.intro ?_ ?_ | apply gQ_merge | apply gE_merge | exact EqV_w | exact EqE_w | exact EqV_ptr | exact EqE_ptr | exact EqV_msl | exact EqE_msl | exact EqV_agg | exact EqE_agg | exact EqV_fn | exact EqE_fn | exact EqV_gd | exact EqE_gd | refine gM_splitN ?_ ?_ | refine gM_split ?_ ?_ |  refine condM_splitDN ?_ ?_ | refine condM_splitD ?_ ?_ | refine condM_splitN ?_ ?_ | refine condM_split ?_ ?_ | refine condM_any ?_ ?_ | intro _) | (simp [*, hlt, hk1, hog, hbl]))
      all_goals try first | exact inI64 (by omega) (by omega) | omega
      all_goals (refine loopK_normal _ _ _ _ _ (k + 1) _ ?_ (by first | omega | (dsimp only; omega) | (simp; omega)) ?_; (· omega); (refine le_of ?_ ?_ <;> first | trivial | (simp [*, (show (orderN rs N).take (k + 1) = _ from kt), (show bump qs ((orderN rs N).take k ++ [x]) = _ from kb)]; done)))
    · have hke : k = L := by omega
      subst hke
      repeat' (first | (with_reducible first | refine awp_seq ?_ | refine awp_blockS ?_ | refine awp_blockC ?_ | refine awp_blockR ?_ | refine awp_skip ?_ | refine awp_ret ?_ | refine awp_exit ?_ | refine awp_region ?_ | refine awp_regionS (id := 23) [0, 1, 2, 3, 5, 6, 7, 9, 10, 11] [4, 8, 12, 13, 14, 15] [[], [], [], [], [.slot 10], [.slot 10], [.slot 10], [.slot 10, .fld 12 31 0], [.slot 10, .fld 12 31 0], [.slot 10, .fld 12 31 0]] [[.slot 10], [.fld 12 31 0], [.fld 11 31 0], [], [.slot 12], [.slot 11]] mixed (by decide +kernel) ?_ | refine awp_condM ?_ | refine And.intro ?_ ?_ | apply gQ_merge | apply gE_merge | exact EqV_w | exact EqE_w | exact EqV_ptr | exact EqE_ptr | exact EqV_msl | exact EqE_msl | exact EqV_agg | exact EqE_agg | exact EqV_fn | exact EqE_fn | exact EqV_gd | exact EqE_gd | refine gM_splitN ?_ ?_ | refine gM_split ?_ ?_ |  refine condM_splitDN ?_ ?_ | refine condM_splitD ?_ ?_ | refine condM_splitN ?_ ?_ | refine condM_split ?_ ?_ | refine condM_any ?_ ?_ | intro _) | (simp [*]))
      all_goals (refine finW_intro () ?_ ?_; (· trivial); (refine le_of ?_ ?_ <;> first | trivial | (simp [*]; done)))
  · repeat' (first | (with_reducible first | refine awp_seq ?_ | refine awp_blockS ?_ | refine awp_blockC ?_ | refine awp_blockR ?_ | refine awp_skip ?_ | refine awp_ret ?_ | refine awp_exit ?_ | refine awp_region ?_ | refine awp_regionS (id := 23) [0, 1, 2, 3, 5, 6, 7, 9, 10, 11] [4, 8, 12, 13, 14, 15] [[], [], [], [], [.slot 10], [.slot 10], [.slot 10], [.slot 10, .fld 12 31 0], [.slot 10, .fld 12 31 0], [.slot 10, .fld 12 31 0]] [[.slot 10], [.fld 12 31 0], [.fld 11 31 0], [], [.slot 12], [.slot 11]] mixed (by decide +kernel) ?_ | refine awp_condM ?_ | refine And.intro ?_ ?_ | apply gQ_merge | apply gE_merge | exact EqV_w | exact EqE_w | exact EqV_ptr | exact EqE_ptr | exact EqV_msl | exact EqE_msl | exact EqV_agg | exact EqE_agg | exact EqV_fn | exact EqE_fn | exact EqV_gd | exact EqE_gd | refine gM_splitN ?_ ?_ | refine gM_split ?_ ?_ |  refine condM_splitDN ?_ ?_ | refine condM_splitD ?_ ?_ | refine condM_splitN ?_ ?_ | refine condM_split ?_ ?_ | refine condM_any ?_ ?_ | intro _) | (simp [*]))
end Go.Proofs.YtlcimflkjfbaoaaGreat
namespace Go.Proofs.YtlcimflkjfbaoaaGreat
open Go Go.Fi
set_option maxRecDepth 20000

/-! ### shares, and amounts of money -/
theorem indexFuncI_c (l : List Int) (hl : l.length < 100000) (g : FuncId) (caps : List PV) (p : Int → Bool) (h : ∀ x, RealCall Tryz.prog g (.int .i64 x :: caps) (.bool (p x)) true) :
    RealCall Tryz.prog 80 [.sl l.length (ints l), .fn g caps] (.int .i64 (idxOf p l)) true := by
  generalize hR : idxOf p l = R
  have kR : Keep (idxF p l 0 = R) := keep hR
  clear hR
  refine realcall_intro Tryz.func80 (by kernel_rfl) rfl (Nat.le_of_ble_eq_true (by kernel_rfl)) ?_
  simp only [Tryz.results80, Tryz.ntmps80]
  repeat' (first | (with_reducible first | refine awp_seq ?_ | refine awp_blockS ?_ | refine awp_blockC ?_ | refine awp_blockR ?_ | refine awp_skip ?_ | refine awp_ret ?_ | refine awp_exit ?_ | refine awp_region ?_ | refine awp_condM ?_ | refine And.intro ?_ ?_ | apply gQ_merge | apply gE_merge | exact EqV_w | exact EqE_w | exact EqV_ptr | exact EqE_ptr | exact EqV_msl | exact EqE_msl | exact EqV_agg | exact EqE_agg | exact EqV_fn | exact EqE_fn | exact EqV_gd | exact EqE_gd | refine gM_splitN ?_ ?_ | refine gM_split ?_ ?_ |  refine condM_splitDN ?_ ?_ | refine condM_splitD ?_ ?_ | refine condM_splitN ?_ ?_ | refine condM_split ?_ ?_ | refine condM_any ?_ ?_ | intro _) | (simp [*]))
  refine awp_for3 (fun (k : Nat) => k ≤ l.length ∧ idxF p (l.drop k) k = R) [0, 1, 7] (fun (k : Nat) => [(8, .w false false (.int .i64 k))]) [] (fun (k : Nat) => []) (fun (k : Nat) => l.length - k) (fun (_u : Unit) => R = -1) [] (fun (_u : Unit) => []) [] (fun (_u : Unit) => []) (0) ⟨Nat.zero_le _, kR⟩ (by simp) (by simp) (fun k hk => ?_) (fun _u hf => ?_)
  · obtain ⟨hk, hj⟩ := hk
    by_cases hlt : k < l.length
    · have c1 := h (nth l k)
      have hj' := hj
      rw [drop_nth l k hlt] at hj'
      unfold idxF at hj'
      have kj := keep hj'
      clear hj hj' h
      repeat' (first | (with_reducible first | refine awp_seq ?_ | refine awp_blockS ?_ | refine awp_blockC ?_ | refine awp_blockR ?_ | refine awp_skip ?_ | refine awp_ret ?_ | refine awp_exit ?_ | refine awp_region ?_ | refine awp_condM ?_ | refine And.intro ?_ ?_ | apply gQ_merge | apply gE_merge | exact EqV_w | exact EqE_w | exact EqV_ptr | exact EqE_ptr | exact EqV_msl | exact EqE_msl | exact EqV_agg | exact EqE_agg | exact EqV_fn | exact EqE_fn | exact EqV_gd | exact EqE_gd | refine gM_splitN ?_ ?_ | refine gM_split ?_ ?_ |  refine condM_splitDN ?_ ?_ | refine condM_splitD ?_ ?_ | refine condM_splitN ?_ ?_ | refine condM_split ?_ ?_ | refine condM_any ?_ ?_ | refine cw (c1) ?_ | intro _) | (simp [*, hlt]) | (refine cw_eq (c1) ?_ ?_; (· (simp [*]; done))))
      all_goals first
        | exact inI64 (by omega) (by omega)
        | omega
        | (rename_i hp; rw [if_pos hp] at kj; exact kj)
        | (rename_i hp; rw [if_neg (by rw [hp]; decide)] at kj; (refine loopK_normal _ _ _ _ _ (k + 1) _ ?_ (by first | omega | (dsimp only; omega) | (simp; omega)) ?_; (· exact ⟨by omega, kj⟩); (refine le_of ?_ ?_ <;> first | trivial | (simp [*]; done))))
        | skip
    · have hke : k = l.length := by omega
      subst hke
      repeat' (first | (with_reducible first | refine awp_seq ?_ | refine awp_blockS ?_ | refine awp_blockC ?_ | refine awp_blockR ?_ | refine awp_skip ?_ | refine awp_ret ?_ | refine awp_exit ?_ | refine awp_region ?_ | refine awp_condM ?_ | refine And.intro ?_ ?_ | apply gQ_merge | apply gE_merge | exact EqV_w | exact EqE_w | exact EqV_ptr | exact EqE_ptr | exact EqV_msl | exact EqE_msl | exact EqV_agg | exact EqE_agg | exact EqV_fn | exact EqE_fn | exact EqV_gd | exact EqE_gd | refine gM_splitN ?_ ?_ | refine gM_split ?_ ?_ |  refine condM_splitDN ?_ ?_ | refine condM_splitD ?_ ?_ | refine condM_splitN ?_ ?_ | refine condM_split ?_ ?_ | refine condM_any ?_ ?_ | intro _) | (simp [*]))
      all_goals (refine finW_intro () ?_ ?_; (· rw [← hj, List.drop_length]; rfl); (refine le_of ?_ ?_ <;> first | trivial | (simp [*]; done)))
  · subst hf
    repeat' (first | (with_reducible first | refine awp_seq ?_ | refine awp_blockS ?_ | refine awp_blockC ?_ | refine awp_blockR ?_ | refine awp_skip ?_ | refine awp_ret ?_ | refine awp_exit ?_ | refine awp_region ?_ | refine awp_condM ?_ | refine And.intro ?_ ?_ | apply gQ_merge | apply gE_merge | exact EqV_w | exact EqE_w | exact EqV_ptr | exact EqE_ptr | exact EqV_msl | exact EqE_msl | exact EqV_agg | exact EqE_agg | exact EqV_fn | exact EqE_fn | exact EqV_gd | exact EqE_gd | refine gM_splitN ?_ ?_ | refine gM_split ?_ ?_ |  refine condM_splitDN ?_ ?_ | refine condM_splitD ?_ ?_ | refine condM_splitN ?_ ?_ | refine condM_split ?_ ?_ | refine condM_any ?_ ?_ | intro _) | (simp [*]))
theorem containsFuncI_c (l : List Int) (hl : l.length < 100000) (g : FuncId) (caps : List PV) (p : Int → Bool) (h : ∀ x, RealCall Tryz.prog g (.int .i64 x :: caps) (.bool (p x)) true) :
    RealCall Tryz.prog 51 [.sl l.length (ints l), .fn g caps] (.bool (l.any p)) true := by
  have c1 := indexFuncI_c l hl g caps p h
  have h := idxOf_any p l
  generalize idxOf p l = i at *
  rw [← h]
  clear h
  refine realcall_intro Tryz.func51 (by kernel_rfl) rfl (Nat.le_of_ble_eq_true (by kernel_rfl)) ?_
  simp only [Tryz.results51, Tryz.ntmps51]
  repeat' (first | (with_reducible first | refine awp_seq ?_ | refine awp_blockS ?_ | refine awp_blockC ?_ | refine awp_blockR ?_ | refine awp_skip ?_ | refine awp_ret ?_ | refine awp_exit ?_ | refine awp_region ?_ | refine awp_condM ?_ | refine And.intro ?_ ?_ | apply gQ_merge | apply gE_merge | exact EqV_w | exact EqE_w | exact EqV_ptr | exact EqE_ptr | exact EqV_msl | exact EqE_msl | exact EqV_agg | exact EqE_agg | exact EqV_fn | exact EqE_fn | exact EqV_gd | exact EqE_gd | refine gM_splitN ?_ ?_ | refine gM_split ?_ ?_ |  refine condM_splitDN ?_ ?_ | refine condM_splitD ?_ ?_ | refine condM_splitN ?_ ?_ | refine condM_split ?_ ?_ | refine condM_any ?_ ?_ | refine cw (c1) ?_ | intro _) | (simp [*]) | (refine cw_eq (c1) ?_ ?_; (· (simp [*]; done))))
theorem sh1_c (x : Int) : RealCall Tryz.prog 65 [.int .i64 x] (.bool (!winB x 0 1000000)) true := by
  refine realcall_intro Tryz.func65 (by kernel_rfl) rfl (Nat.le_of_ble_eq_true (by kernel_rfl)) ?_
  simp only [Tryz.results65, Tryz.ntmps65]
  repeat' (first | (with_reducible first | refine awp_seq ?_ | refine awp_blockS ?_ | refine awp_blockC ?_ | refine awp_blockR ?_ | refine awp_skip ?_ | refine awp_ret ?_ | refine awp_exit ?_ | refine awp_region ?_ | refine awp_condM ?_ | refine And.intro ?_ ?_ | apply gQ_merge | apply gE_merge | exact EqV_w | exact EqE_w | exact EqV_ptr | exact EqE_ptr | exact EqV_msl | exact EqE_msl | exact EqV_agg | exact EqE_agg | exact EqV_fn | exact EqE_fn | exact EqV_gd | exact EqE_gd | refine gM_splitN ?_ ?_ | refine gM_split ?_ ?_ |  refine condM_splitDN ?_ ?_ | refine condM_splitD ?_ ?_ | refine condM_splitN ?_ ?_ | refine condM_split ?_ ?_ | refine condM_any ?_ ?_ | refine cw (within_c _ _ _) ?_ | intro _) | (simp [*]) | (refine cw_eq (within_c _ _ _) ?_ ?_; (· (simp [*]; done))))
theorem sh2_c (x : Int) : RealCall Tryz.prog 66 [.int .i64 x] (.bool (decide (0 < x))) true := by
  refine realcall_intro Tryz.func66 (by kernel_rfl) rfl (Nat.le_of_ble_eq_true (by kernel_rfl)) ?_
  simp only [Tryz.results66, Tryz.ntmps66]
  repeat' (first | (with_reducible first | refine awp_seq ?_ | refine awp_blockS ?_ | refine awp_blockC ?_ | refine awp_blockR ?_ | refine awp_skip ?_ | refine awp_ret ?_ | refine awp_exit ?_ | refine awp_region ?_ | refine awp_condM ?_ | refine And.intro ?_ ?_ | apply gQ_merge | apply gE_merge | exact EqV_w | exact EqE_w | exact EqV_ptr | exact EqE_ptr | exact EqV_msl | exact EqE_msl | exact EqV_agg | exact EqE_agg | exact EqV_fn | exact EqE_fn | exact EqV_gd | exact EqE_gd | refine gM_splitN ?_ ?_ | refine gM_split ?_ ?_ |  refine condM_splitDN ?_ ?_ | refine condM_splitD ?_ ?_ | refine condM_splitN ?_ ?_ | refine condM_split ?_ ?_ | refine condM_any ?_ ?_ | intro _) | (simp [*]))
theorem mo1_c (x : Int) : RealCall Tryz.prog 52 [.int .i64 x] (.bool (!winB x 0 1000000000)) true := by
  refine realcall_intro Tryz.func52 (by kernel_rfl) rfl (Nat.le_of_ble_eq_true (by kernel_rfl)) ?_
  simp only [Tryz.results52, Tryz.ntmps52]
  repeat' (first | (with_reducible first | refine awp_seq ?_ | refine awp_blockS ?_ | refine awp_blockC ?_ | refine awp_blockR ?_ | refine awp_skip ?_ | refine awp_ret ?_ | refine awp_exit ?_ | refine awp_region ?_ | refine awp_condM ?_ | refine And.intro ?_ ?_ | apply gQ_merge | apply gE_merge | exact EqV_w | exact EqE_w | exact EqV_ptr | exact EqE_ptr | exact EqV_msl | exact EqE_msl | exact EqV_agg | exact EqE_agg | exact EqV_fn | exact EqE_fn | exact EqV_gd | exact EqE_gd | refine gM_splitN ?_ ?_ | refine gM_split ?_ ?_ |  refine condM_splitDN ?_ ?_ | refine condM_splitD ?_ ?_ | refine condM_splitN ?_ ?_ | refine condM_split ?_ ?_ | refine condM_any ?_ ?_ | refine cw (within_c _ _ _) ?_ | intro _) | (simp [*]) | (refine cw_eq (within_c _ _ _) ?_ ?_; (· (simp [*]; done))))
def shareE (l : List Int) : Int := firstS [errUnless (!l.any fun x => !winB x 0 1000000) 2, errUnless (l.any fun x => decide (0 < x)) 11]
def moneyE (l : List Int) : Int := errUnless (!l.any fun x => !winB x 0 1000000000) 2
theorem shareErr_c (l : List Int) (hl : l.length < 100000) : RealCall Tryz.prog 42 [.sl l.length (ints l)] (.int .i64 (shareE l)) true := by
  have c1 := containsFuncI_c l hl 65 [] _ sh1_c
  have c2 := containsFuncI_c l hl 66 [] _ sh2_c
  unfold shareE
  generalize (l.any fun x => !winB x 0 1000000) = b1 at *
  generalize (l.any fun x => decide (0 < x)) = b2 at *
  refine realcall_intro Tryz.func42 (by kernel_rfl) rfl (Nat.le_of_ble_eq_true (by kernel_rfl)) ?_
  simp only [Tryz.results42, Tryz.ntmps42]
  repeat' (first | (with_reducible first | refine awp_seq ?_ | refine awp_blockS ?_ | refine awp_blockC ?_ | refine awp_blockR ?_ | refine awp_skip ?_ | refine awp_ret ?_ | refine awp_exit ?_ | refine awp_region ?_ | refine awp_condM ?_ | refine And.intro ?_ ?_ | apply gQ_merge | apply gE_merge | exact EqV_w | exact EqE_w | exact EqV_ptr | exact EqE_ptr | exact EqV_msl | exact EqE_msl | exact EqV_agg | exact EqE_agg | exact EqV_fn | exact EqE_fn | exact EqV_gd | exact EqE_gd | refine gM_splitN ?_ ?_ | refine gM_split ?_ ?_ |  refine condM_splitDN ?_ ?_ | refine condM_splitD ?_ ?_ | refine condM_splitN ?_ ?_ | refine condM_split ?_ ?_ | refine condM_any ?_ ?_ | refine cw (c1) ?_ | refine cw (c2) ?_ | refine cw (unless_c _ _) ?_ | refine cw (first2_c _ _) ?_ | intro _) | (simp [*]) | (refine cw_eq (c1) ?_ ?_; (· (simp [*]; done))) | (refine cw_eq (c2) ?_ ?_; (· (simp [*]; done))) | (refine cw_eq (unless_c _ _) ?_ ?_; (· (simp [*]; done))) | (refine cw_eq (first2_c _ _) ?_ ?_; (· (simp [*]; done))))
theorem moneyErr_c (l : List Int) (hl : l.length < 100000) : RealCall Tryz.prog 26 [.sl l.length (ints l)] (.int .i64 (moneyE l)) true := by
  have c1 := containsFuncI_c l hl 52 [] _ mo1_c
  unfold moneyE
  generalize (l.any fun x => !winB x 0 1000000000) = b1 at *
  refine realcall_intro Tryz.func26 (by kernel_rfl) rfl (Nat.le_of_ble_eq_true (by kernel_rfl)) ?_
  simp only [Tryz.results26, Tryz.ntmps26]
  repeat' (first | (with_reducible first | refine awp_seq ?_ | refine awp_blockS ?_ | refine awp_blockC ?_ | refine awp_blockR ?_ | refine awp_skip ?_ | refine awp_ret ?_ | refine awp_exit ?_ | refine awp_region ?_ | refine awp_condM ?_ | refine And.intro ?_ ?_ | apply gQ_merge | apply gE_merge | exact EqV_w | exact EqE_w | exact EqV_ptr | exact EqE_ptr | exact EqV_msl | exact EqE_msl | exact EqV_agg | exact EqE_agg | exact EqV_fn | exact EqE_fn | exact EqV_gd | exact EqE_gd | refine gM_splitN ?_ ?_ | refine gM_split ?_ ?_ |  refine condM_splitDN ?_ ?_ | refine condM_splitD ?_ ?_ | refine condM_splitN ?_ ?_ | refine condM_split ?_ ?_ | refine condM_any ?_ ?_ | refine cw (c1) ?_ | refine cw (unless_c _ _) ?_ | intro _) | (simp [*]) | (refine cw_eq (c1) ?_ ?_; (· (simp [*]; done))) | (refine cw_eq (unless_c _ _) ?_ ?_; (· (simp [*]; done))))
def splitE (a : Int) (l : List Int) : Int := firstS [errUnless (smallB a 1000000000000000) 2, errUnless (decide ((0 : Int) < l.length)) 10, errUnless (decide ((l.length : Int) ≤ 12)) 8, shareE l]
theorem splitF_ok (a : Int) (l : List Int) (hl : l.length < 100000) (h : splitE a l = 0) (p : List Int) (hp : p.length = l.length) (cs : MkCall Tryz.prog 43 [.int .i64 a, .sl l.length (ints l)] [iA p] (.msl 0 l.length 1 0 l.length)) : RealCall Tryz.prog 16 [.int .i64 a, .sl l.length (ints l)] (.tup [.sl l.length (ints p), .int .i64 0]) true := by
  have c1 := shareErr_c l hl
  have c2 := small_c a 1000000000000000 (by decide) (by decide)
  have c3 := first4_c (errUnless (smallB a 1000000000000000) 2) (errUnless (decide ((0 : Int) < l.length)) 10) (errUnless (decide ((l.length : Int) ≤ 12)) 8) (shareE l)
  change RealCall _ _ _ (.int .i64 (splitE a l)) true at c3
  rw [h] at c3
  clear h
  refine realcall_intro Tryz.func16 (by kernel_rfl) rfl (Nat.le_of_ble_eq_true (by kernel_rfl)) ?_
  simp only [Tryz.results16, Tryz.ntmps16]
  repeat' (first | (with_reducible first | refine awp_seq ?_ | refine awp_blockS ?_ | refine awp_blockC ?_ | refine awp_blockR ?_ | refine awp_skip ?_ | refine awp_ret ?_ | refine awp_exit ?_ | refine awp_region ?_ | refine awp_condM ?_ | refine And.intro ?_ ?_ | apply gQ_merge | apply gE_merge | exact EqV_w | exact EqE_w | exact EqV_ptr | exact EqE_ptr | exact EqV_msl | exact EqE_msl | exact EqV_agg | exact EqE_agg | exact EqV_fn | exact EqE_fn | exact EqV_gd | exact EqE_gd | refine gM_splitN ?_ ?_ | refine gM_split ?_ ?_ |  refine condM_splitDN ?_ ?_ | refine condM_splitD ?_ ?_ | refine condM_splitN ?_ ?_ | refine condM_split ?_ ?_ | refine condM_any ?_ ?_ | refine cw (c1) ?_ | refine cw (c2) ?_ | refine cw (c3) ?_ | refine cw (unless_c _ _) ?_ | refine cwM (cs) ?_ | intro _) | (simp [*, hp]) | (refine cw_eq (c1) ?_ ?_; (· (simp [*]; done))) | (refine cw_eq (c2) ?_ ?_; (· (simp [*]; done))) | (refine cw_eq (c3) ?_ ?_; (· (simp [*]; done))) | (refine cw_eq (unless_c _ _) ?_ ?_; (· (simp [*]; done))))
end Go.Proofs.YtlcimflkjfbaoaaGreat
namespace Go.Proofs.YtlcimflkjfbaoaaGreat
open Go Go.Fi
set_option maxRecDepth 20000

/-! ### rules -/
def five (r : Rule) : List ByteArray := [r.owner, r.driver, r.office, r.cash, r.vouch]
def sharesOf (r : Rule) : List Int := [r.s0, r.s1, r.s2]
theorem five_get (r : Rule) (k : Nat) (h : k < 5) : nthA [.w false false (.str r.owner), .w false false (.str r.driver), .w false false (.str r.office), .w false false (.str r.cash), .w false false (.str r.vouch)] k = .w false false (.str (nth (five r) k)) := by
  match k, h with
  | 0, _ => rfl
  | 1, _ => rfl
  | 2, _ => rfl
  | 3, _ => rfl
  | 4, _ => rfl
theorem five_strP (r : Rule) : [PV.str r.owner, .str r.driver, .str r.office, .str r.cash, .str r.vouch] = strP (five r) := rfl
structure RuleOk (l : List Acc) (r : Rule) : Prop where
  accs : (accsS l).2 = 0
  has : ∀ k, k < 5 → hasS l (nth (five r) k) = true
  apart : ∀ k, k < 5 → Lib.containsS ((five r).take k) (nth (five r) k) = false
set_option maxHeartbeats 4000000 in
theorem checkRule_ok (l : List Acc) (hl : AccsIn l) (r : Rule) (h : RuleOk l r) : RealCall Tryz.prog 28 [.sl l.length (cAccs l), .agg (cRule r)] (.int .i64 (shareE (sharesOf r))) true := by
  have c1 := accountsErr_c l hl
  have hlen := hl.len
  rw [h.accs] at c1
  have hh := keep h.has
  have ha := keep h.apart
  have c3 := shareErr_c (sharesOf r) (show 3 < 100000 by decide)
  clear hl h
  have e3 : ints (sharesOf r) = [.int .i64 r.s0, .int .i64 r.s1, .int .i64 r.s2] := rfl
  have e4 : (sharesOf r).length = 3 := rfl
  rw [e3, e4] at c3
  generalize shareE (sharesOf r) = E at *
  clear e3 e4
  unfold cRule
  refine realcall_intro Tryz.func28 (by kernel_rfl) rfl (Nat.le_of_ble_eq_true (by kernel_rfl)) ?_
  simp only [Tryz.results28, Tryz.ntmps28]
  repeat' (first | (with_reducible first | refine awp_seq ?_ | refine awp_blockS ?_ | refine awp_blockC ?_ | refine awp_blockR ?_ | refine awp_skip ?_ | refine awp_ret ?_ | refine awp_exit ?_ | refine awp_region ?_ | refine awp_condM ?_ | refine And.intro ?_ ?_ | apply gQ_merge | apply gE_merge | exact EqV_w | exact EqE_w | exact EqV_ptr | exact EqE_ptr | exact EqV_msl | exact EqE_msl | exact EqV_agg | exact EqE_agg | exact EqV_fn | exact EqE_fn | exact EqV_gd | exact EqE_gd | refine gM_splitN ?_ ?_ | refine gM_split ?_ ?_ |  refine condM_splitDN ?_ ?_ | refine condM_splitD ?_ ?_ | refine condM_splitN ?_ ?_ | refine condM_split ?_ ?_ | refine condM_any ?_ ?_ | refine cw (c1) ?_ | intro _) | (simp [*, repl]) | (refine cw_eq (c1) ?_ ?_; (· (simp [*]; done))))
  refine awp_for3 (fun (k : Nat) => k ≤ 5) [0, 3, 6, 27] (fun (k : Nat) => [(28, .w false false (.int .i64 k))]) [0, 1] (fun (k : Nat) => []) (fun (k : Nat) => 5 - k) (fun (_u : Unit) => True) [3, 6] (fun (_u : Unit) => []) [0, 1] (fun (_u : Unit) => []) (0) (Nat.zero_le _) (by simp) (by simp) (fun k hk => ?_) (fun _u hf => ?_)
  · by_cases hlt : k < 5
    · have c2 := has_c l (by omega) (nth (five r) k)
      rw [(show ∀ k, k < 5 → hasS l (nth (five r) k) = true from hh) k hlt] at c2
      have hg := five_get r k hlt
      repeat' (first | (with_reducible first | refine awp_idx1 (j := k) (cs := [.w false false (.str r.owner), .w false false (.str r.driver), .w false false (.str r.office), .w false false (.str r.cash), .w false false (.str r.vouch)]) (k := 5) (e := 9) (d2 := 30) (x := 27) (i := 28) (ow := false) (fl := false) rfl Tryz.underlying133 (by simp) (by simp) (by simp) (by simp) hlt (by simpa using hlt) (by decide) ?_ | refine awp_seq ?_ | refine awp_blockS ?_ | refine awp_blockC ?_ | refine awp_blockR ?_ | refine awp_skip ?_ | refine awp_ret ?_ | refine awp_exit ?_ | refine awp_region ?_ | refine awp_condM ?_ | refine And.intro ?_ ?_ | apply gQ_merge | apply gE_merge | exact EqV_w | exact EqE_w | exact EqV_ptr | exact EqE_ptr | exact EqV_msl | exact EqE_msl | exact EqV_agg | exact EqE_agg | exact EqV_fn | exact EqE_fn | exact EqV_gd | exact EqE_gd | refine gM_splitN ?_ ?_ | refine gM_split ?_ ?_ |  refine condM_splitDN ?_ ?_ | refine condM_splitD ?_ ?_ | refine condM_splitN ?_ ?_ | refine condM_split ?_ ?_ | refine condM_any ?_ ?_ | refine cw (c2) ?_ | intro _) | (simp [*, hlt, hg]) | (refine cw_eq (c2) ?_ ?_; (· (simp [*]; done))))
      all_goals try first | exact inI64 (by omega) (by omega) | omega
      all_goals (refine loopK_normal _ _ _ _ _ (k + 1) _ ?_ (by first | omega | (dsimp only; omega) | (simp; omega)) ?_; (· omega); (refine le_of ?_ ?_ <;> first | trivial | (simp [*]; done)))
    · have hke : k = 5 := by omega
      subst hke
      repeat' (first | (with_reducible first | refine awp_seq ?_ | refine awp_blockS ?_ | refine awp_blockC ?_ | refine awp_blockR ?_ | refine awp_skip ?_ | refine awp_ret ?_ | refine awp_exit ?_ | refine awp_region ?_ | refine awp_condM ?_ | refine And.intro ?_ ?_ | apply gQ_merge | apply gE_merge | exact EqV_w | exact EqE_w | exact EqV_ptr | exact EqE_ptr | exact EqV_msl | exact EqE_msl | exact EqV_agg | exact EqE_agg | exact EqV_fn | exact EqE_fn | exact EqV_gd | exact EqE_gd | refine gM_splitN ?_ ?_ | refine gM_split ?_ ?_ |  refine condM_splitDN ?_ ?_ | refine condM_splitD ?_ ?_ | refine condM_splitN ?_ ?_ | refine condM_split ?_ ?_ | refine condM_any ?_ ?_ | intro _) | (simp [*]))
      all_goals (refine finW_intro () ?_ ?_; (· trivial); (refine le_of ?_ ?_ <;> first | trivial | (simp [*]; done)))
  repeat' (first | (with_reducible first | refine awp_seq ?_ | refine awp_blockS ?_ | refine awp_blockC ?_ | refine awp_blockR ?_ | refine awp_skip ?_ | refine awp_ret ?_ | refine awp_exit ?_ | refine awp_region ?_ | refine awp_condM ?_ | refine And.intro ?_ ?_ | apply gQ_merge | apply gE_merge | exact EqV_w | exact EqE_w | exact EqV_ptr | exact EqE_ptr | exact EqV_msl | exact EqE_msl | exact EqV_agg | exact EqE_agg | exact EqV_fn | exact EqE_fn | exact EqV_gd | exact EqE_gd | refine gM_splitN ?_ ?_ | refine gM_split ?_ ?_ |  refine condM_splitDN ?_ ?_ | refine condM_splitD ?_ ?_ | refine condM_splitN ?_ ?_ | refine condM_split ?_ ?_ | refine condM_any ?_ ?_ | intro _) | (simp [*]))
  refine awp_for4 2 (fun (k : Nat) => k ≤ 5) [36] (fun (k : Nat) => [(37, .w false false (.int .i64 k)), (3, .w false false (.ip [.str r.owner, .str r.driver, .str r.office, .int .i64 r.s0, .int .i64 r.s1, .int .i64 r.s2, .str r.cash, .str r.vouch] 0)), (6, .w false false (.ip (strP (five r)) 0))]) [] (fun (k : Nat) => []) (fun (k : Nat) => 5 - k) (fun (_u : Unit) => True) [] (fun (_u : Unit) => [(3, .w false false (.ip [.str r.owner, .str r.driver, .str r.office, .int .i64 r.s0, .int .i64 r.s1, .int .i64 r.s2, .str r.cash, .str r.vouch] 0))]) [] (fun (_u : Unit) => []) (0) (Nat.zero_le _) (le_gen [0, 1] (by simp [five_strP]) (by simp [five_strP])) (fun k hk => ?_) (fun _u hf => ?_)
  · by_cases hlt : k < 5
    · have c2 := contT_c ((five r).take k) (nth (five r) k) (by rw [List.length_take]; omega)
      rw [(show ∀ k, k < 5 → Lib.containsS ((five r).take k) (nth (five r) k) = false from ha) k hlt, take_len _ _ (show k ≤ (five r).length from hk)] at c2
      have hg := five_get r k hlt
      repeat' (first | (with_reducible first | refine awp_idx (j := k) (cs := [.w false false (.str r.owner), .w false false (.str r.driver), .w false false (.str r.office), .w false false (.str r.cash), .w false false (.str r.vouch)]) (k := 5) (e := 9) (d1 := 39) (d2 := 40) (x := 36) (i := 37) (t := 37) (ow := false) (fl := false) rfl Tryz.underlying133 (by simp) (by simp) (by simp) (by simp) (by decide) (by decide) hlt (by simpa using hlt) (by decide) (by decide) ?_ | refine awp_seq ?_ | refine awp_blockS ?_ | refine awp_blockC ?_ | refine awp_blockR ?_ | refine awp_skip ?_ | refine awp_ret ?_ | refine awp_exit ?_ | refine awp_region ?_ | refine awp_condM ?_ | refine And.intro ?_ ?_ | apply gQ_merge | apply gE_merge | exact EqV_w | exact EqE_w | exact EqV_ptr | exact EqE_ptr | exact EqV_msl | exact EqE_msl | exact EqV_agg | exact EqE_agg | exact EqV_fn | exact EqE_fn | exact EqV_gd | exact EqE_gd | refine gM_splitN ?_ ?_ | refine gM_split ?_ ?_ |  refine condM_splitDN ?_ ?_ | refine condM_splitD ?_ ?_ | refine condM_splitN ?_ ?_ | refine condM_split ?_ ?_ | refine condM_any ?_ ?_ | refine cw (c2) ?_ | intro _) | (simp [*, hlt, hg]) | (refine cw_eq (c2) ?_ ?_; (· (simp [*]; done))))
      all_goals try first | exact inI64 (by omega) (by omega) | omega | (show 5 ≤ 5; omega)
      all_goals (refine loopK_normal _ _ _ _ _ (k + 1) _ ?_ (by first | omega | (dsimp only; omega) | (simp; omega)) ?_; (· omega); (refine le_of ?_ ?_ <;> first | trivial | (simp [*]; done)))
    · have hke : k = 5 := by omega
      subst hke
      repeat' (first | (with_reducible first | refine awp_seq ?_ | refine awp_blockS ?_ | refine awp_blockC ?_ | refine awp_blockR ?_ | refine awp_skip ?_ | refine awp_ret ?_ | refine awp_exit ?_ | refine awp_region ?_ | refine awp_condM ?_ | refine And.intro ?_ ?_ | apply gQ_merge | apply gE_merge | exact EqV_w | exact EqE_w | exact EqV_ptr | exact EqE_ptr | exact EqV_msl | exact EqE_msl | exact EqV_agg | exact EqE_agg | exact EqV_fn | exact EqE_fn | exact EqV_gd | exact EqE_gd | refine gM_splitN ?_ ?_ | refine gM_split ?_ ?_ |  refine condM_splitDN ?_ ?_ | refine condM_splitD ?_ ?_ | refine condM_splitN ?_ ?_ | refine condM_split ?_ ?_ | refine condM_any ?_ ?_ | intro _) | (simp [*]))
      all_goals (refine finW_intro () ?_ ?_; (· trivial); (refine le_of ?_ ?_ <;> first | trivial | (simp [*]; done)))
  · repeat' (first | (with_reducible first | refine awp_seq ?_ | refine awp_blockS ?_ | refine awp_blockC ?_ | refine awp_blockR ?_ | refine awp_skip ?_ | refine awp_ret ?_ | refine awp_exit ?_ | refine awp_region ?_ | refine awp_condM ?_ | refine And.intro ?_ ?_ | apply gQ_merge | apply gE_merge | exact EqV_w | exact EqE_w | exact EqV_ptr | exact EqE_ptr | exact EqV_msl | exact EqE_msl | exact EqV_agg | exact EqE_agg | exact EqV_fn | exact EqE_fn | exact EqV_gd | exact EqE_gd | refine gM_splitN ?_ ?_ | refine gM_split ?_ ?_ |  refine condM_splitDN ?_ ?_ | refine condM_splitD ?_ ?_ | refine condM_splitN ?_ ?_ | refine condM_split ?_ ?_ | refine condM_any ?_ ?_ | refine cw (c3) ?_ | intro _) | (simp [*]) | (refine cw_eq (c3) ?_ ?_; (· (simp [*]; done))))
end Go.Proofs.YtlcimflkjfbaoaaGreat

