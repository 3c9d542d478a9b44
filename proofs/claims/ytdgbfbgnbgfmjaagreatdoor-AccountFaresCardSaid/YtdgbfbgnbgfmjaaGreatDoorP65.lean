/- Contracts of functions for this claim: lemmas alone. -/
import Derived.Test.YtdgbfbgnbgfmjaaGreatDoorP63
set_option linter.unusedSimpArgs false
set_option linter.unusedVariables false
namespace Go.Proofs.YtdgbfbgnbgfmjaaGreatDoor
open Go Go.Fi
set_option maxRecDepth 20000

/-! ### the document's split of an amount -/
theorem nth_snoc (l : List Int) (x : Int) (k : Nat) (h : l.length = k) : nth (l ++ [x]) k = x := by
  subst h; simp [nth]
theorem bestK_lt (l : List Int) (k : Nat) (h : 1 ≤ k) : bestK l k < k := by
  obtain ⟨j, rfl⟩ : ∃ j, k = j + 1 := ⟨k - 1, by omega⟩
  exact (bestK_spec l j).1
theorem bestK_yes (l : List Int) (k : Nat) (h : nth l (bestK l k) < nth l k) : bestK l (k + 1) = k := if_pos h
theorem bestK_no (l : List Int) (k : Nat) (h : ¬ nth l (bestK l k) < nth l k) : bestK l (k + 1) = bestK l k := if_neg h
set_option maxHeartbeats 16000000 in
theorem rSplit_mk (a : Nat) (ns : List Nat) (h : SplitIn a ns) (h12 : ns.length ≤ 12) (hE : shareE (toI ns) = 0) : MkCall Tryz.prog 19 [.int .i64 (a : Int), .sl ns.length (ints (toI ns))] [iA (splitS a ns)] (.tup [.msl 0 ns.length 1 0 ns.length, .w false false (.int .i64 0)]) := by
  have hpos := h.pos
  have hsh := h.share
  have ham := h.amt
  obtain ⟨hg1, hg2⟩ := left_bd a ns hpos
  have hS := sumN_bd ns hsh
  have hn0 : 0 < ns.length := by omega
  clear h
  have hti := toI_len ns
  have ha0 : ¬ (a : Int) < 0 := by omega
  have c1 := rSmall_c (a : Int) 1000000000000000 (by decide) (by decide)
  have hsm : smallB (a : Int) 1000000000000000 = true := winB_iff.2 ⟨by omega, by omega⟩
  rw [hsm] at c1
  clear hsm
  have c2 := rSharesErr_c (toI ns) (by rw [hti]; omega)
  rw [hE, hti] at c2
  clear hE
  have hn1 : ¬ ns.length = 0 := by omega
  have hn2 : ¬ 12 < ns.length := by omega
  have hn1I : ¬ (ns.length : Int) = 0 := by omega
  have hn2I : ¬ (12 : Int) < (ns.length : Int) := by omega
  refine mkcall_intro 0 [] Tryz.func19 (by kernel_rfl) rfl (Nat.le_of_ble_eq_true (by kernel_rfl)) (by simp) (by simp) ?_
  simp only [Tryz.results19, Tryz.ntmps19]
  repeat' (first | (with_reducible first | refine awp_seq ?_ | refine awp_blockS ?_ | refine awp_blockC ?_ | refine awp_blockR ?_ | refine awp_skip ?_ | refine awp_ret ?_ | refine awp_exit ?_ | refine awp_region ?_ | refine awp_regionD (id := 22) 8 mixed (by decide +kernel) ?_ | refine awp_regionD (id := 29) 17 mixed (by decide +kernel) ?_ | refine awp_regionD (id := 38) 9 mixed (by decide +kernel) ?_ | refine awp_condM ?_ | refine And.intro ?_ ?_ | apply gQ_merge | apply gE_merge | exact EqV_w | exact EqE_w | exact EqV_ptr | exact EqE_ptr | exact EqV_msl | exact EqE_msl | exact EqV_agg | exact EqE_agg | exact EqV_fn | exact EqE_fn | exact EqV_gd | exact EqE_gd | refine gM_splitN ?_ ?_ | refine gM_split ?_ ?_ |  refine condM_splitDN ?_ ?_ | refine condM_splitD ?_ ?_ | refine condM_splitN ?_ ?_ | refine condM_split ?_ ?_ | refine condM_any ?_ ?_ | refine cw (c1) ?_ | refine cw (c2) ?_ | intro _) | (simp [*, ha0, hn1, hn2, hn1I, hn2I]) | (refine cw_eq (c1) ?_ ?_; (· (simp [*]; done))) | (refine cw_eq (c2) ?_ ?_; (· (simp [*]; done))))
  clear c1 c2
  refine awp_for3 (fun (k : Nat) => k ≤ ns.length) [0, 1] (fun (k : Nat) => [(11, .w false false (.int .i64 k)), (10, .w false false (.int .i64 ((sumN (ns.take k) : Nat) : Int)))]) [] (fun (k : Nat) => []) (fun (k : Nat) => ns.length - k) (fun (_u : Unit) => True) [0, 1] (fun (_u : Unit) => [(10, .w false false (.int .i64 ((sumN ns : Nat) : Int)))]) [] (fun (_u : Unit) => []) (0) (Nat.zero_le _) (by simp) (by simp) (fun k hk => ?_) (fun _u hf => ?_)
  · by_cases hlt : k < ns.length
    · have ks := keep (sumN_succ ns k hlt)
      have hb := hsh k hlt
      have hb2 : sumN (ns.take k) ≤ 1000000 * (ns.take k).length := sumN_bd _ (fun j hj => by
        rw [take_len _ _ hk] at hj
        have := hsh j (by omega)
        have e : nth (ns.take k) j = nth ns j := by simp [nth, List.getD_eq_getElem?_getD, List.getElem?_take, hj]
        rw [e]; exact this)
      rw [take_len _ _ hk] at hb2
      have hg := toI_nth ns k hlt
      clear hsh
      repeat' (first | (with_reducible first | refine awp_seq ?_ | refine awp_blockS ?_ | refine awp_blockC ?_ | refine awp_blockR ?_ | refine awp_skip ?_ | refine awp_ret ?_ | refine awp_exit ?_ | refine awp_region ?_ | refine awp_regionD (id := 22) 8 mixed (by decide +kernel) ?_ | refine awp_regionD (id := 29) 17 mixed (by decide +kernel) ?_ | refine awp_regionD (id := 38) 9 mixed (by decide +kernel) ?_ | refine awp_condM ?_ | refine And.intro ?_ ?_ | apply gQ_merge | apply gE_merge | exact EqV_w | exact EqE_w | exact EqV_ptr | exact EqE_ptr | exact EqV_msl | exact EqE_msl | exact EqV_agg | exact EqE_agg | exact EqV_fn | exact EqE_fn | exact EqV_gd | exact EqE_gd | refine gM_splitN ?_ ?_ | refine gM_split ?_ ?_ |  refine condM_splitDN ?_ ?_ | refine condM_splitD ?_ ?_ | refine condM_splitN ?_ ?_ | refine condM_split ?_ ?_ | refine condM_any ?_ ?_ | intro _) | (simp [*, hlt, hg]))
      all_goals try first | exact inI64 (by omega) (by omega) | omega
      all_goals (refine loopK_normal _ _ _ _ _ (k + 1) _ ?_ (by first | omega | (dsimp only; omega) | (simp; omega)) ?_; (· omega); (refine le_of ?_ ?_ <;> first | trivial | (simp [*, (show sumN (ns.take (k + 1)) = _ from ks)]; done)))
    · have hke : k = ns.length := by omega
      subst hke
      clear hsh
      repeat' (first | (with_reducible first | refine awp_seq ?_ | refine awp_blockS ?_ | refine awp_blockC ?_ | refine awp_blockR ?_ | refine awp_skip ?_ | refine awp_ret ?_ | refine awp_exit ?_ | refine awp_region ?_ | refine awp_regionD (id := 22) 8 mixed (by decide +kernel) ?_ | refine awp_regionD (id := 29) 17 mixed (by decide +kernel) ?_ | refine awp_regionD (id := 38) 9 mixed (by decide +kernel) ?_ | refine awp_condM ?_ | refine And.intro ?_ ?_ | apply gQ_merge | apply gE_merge | exact EqV_w | exact EqE_w | exact EqV_ptr | exact EqE_ptr | exact EqV_msl | exact EqE_msl | exact EqV_agg | exact EqE_agg | exact EqV_fn | exact EqE_fn | exact EqV_gd | exact EqE_gd | refine gM_splitN ?_ ?_ | refine gM_split ?_ ?_ |  refine condM_splitDN ?_ ?_ | refine condM_splitD ?_ ?_ | refine condM_splitN ?_ ?_ | refine condM_split ?_ ?_ | refine condM_any ?_ ?_ | intro _) | (simp [*]))
      all_goals (refine finW_intro () ?_ ?_; (· trivial); (refine le_of ?_ ?_ <;> first | trivial | (simp [*, List.take_length]; done)))
  have hS0 : ¬ sumN ns = 0 := by omega
  have hS1 : ¬ (sumN ns : Int) = 0 := by omega
  have hS2 : ¬ (sumN ns : Int) ≤ 0 := by omega
  have e2 : (a : Int).tdiv (sumN ns : Int) = ((a / sumN ns : Nat) : Int) := rfl
  have e3 : (a : Int).tmod (sumN ns : Int) = ((a % sumN ns : Nat) : Int) := rfl
  have hW := Nat.div_le_self a (sumN ns)
  have hX := Nat.mod_lt a hpos
  have hWS : a / sumN ns * sumN ns ≤ a := Nat.div_mul_le_self a (sumN ns)
  have kfd := keep (fun s : Nat => whole_div a s (sumN ns) hpos)
  have kfm := keep (fun s : Nat => whole_mod a s (sumN ns))
  generalize hWd : a / sumN ns = W at *
  generalize hXd : a % sumN ns = X at *
  repeat' (first | (with_reducible first | refine awp_seq ?_ | refine awp_blockS ?_ | refine awp_blockC ?_ | refine awp_blockR ?_ | refine awp_skip ?_ | refine awp_ret ?_ | refine awp_exit ?_ | refine awp_region ?_ | refine awp_regionD (id := 22) 8 mixed (by decide +kernel) ?_ | refine awp_regionD (id := 29) 17 mixed (by decide +kernel) ?_ | refine awp_regionD (id := 38) 9 mixed (by decide +kernel) ?_ | refine awp_condM ?_ | refine And.intro ?_ ?_ | apply gQ_merge | apply gE_merge | exact EqV_w | exact EqE_w | exact EqV_ptr | exact EqE_ptr | exact EqV_msl | exact EqE_msl | exact EqV_agg | exact EqE_agg | exact EqV_fn | exact EqE_fn | exact EqV_gd | exact EqE_gd | refine gM_splitN ?_ ?_ | refine gM_split ?_ ?_ |  refine condM_splitDN ?_ ?_ | refine condM_splitD ?_ ?_ | refine condM_splitN ?_ ?_ | refine condM_split ?_ ?_ | refine condM_any ?_ ?_ | intro _) | (simp [*, hS0, hS1, hS2, e2, e3]))
  all_goals try first | exact inI64 (by omega) (by omega) | omega
  clear e2 e3
  refine awp_for4 2 (fun (k : Nat) => k ≤ ns.length) [0, 1, 10, 12, 13] (fun (k : Nat) => [(17, .w false false (.int .i64 k)), (14, .msl 0 k 1 0 k), (15, .msl 1 k 1 0 k), (16, .w false false (.int .i64 ((givenK a (sumN ns) (ns.take k) : Nat) : Int)))]) [] (fun (k : Nat) => [(0, iA (qsK a (sumN ns) (ns.take k))), (1, iA (rsK a (sumN ns) (ns.take k)))]) (fun (k : Nat) => ns.length - k) (fun (_u : Unit) => True) [0] (fun (_u : Unit) => [(14, .msl 0 ns.length 1 0 ns.length), (15, .msl 1 ns.length 1 0 ns.length), (16, .w false false (.int .i64 ((givenK a (sumN ns) ns : Nat) : Int)))]) [] (fun (_u : Unit) => [(0, iA (qsK a (sumN ns) ns)), (1, iA (rsK a (sumN ns) ns))]) (0) (Nat.zero_le _) (le_gen [] (by simp) (by simp)) (fun k hk => ?_) (fun _u hf => ?_)
  · by_cases hlt : k < ns.length
    · have hb := hsh k hlt
      have hle := nth_le_sum ns k hlt
      have hg := toI_nth ns k hlt
      have k1 := keep (qs_succ a (sumN ns) ns k hlt)
      have k2 := keep (rs_succ a (sumN ns) ns k hlt)
      have k4 := keep (given_succ a (sumN ns) ns k hlt)
      have hgm := given_mono a (sumN ns) ns (k + 1)
      rw [given_succ a (sumN ns) ns k hlt] at hgm
      have hq := div_bd (a := a) (nth_le_sum ns k hlt) hpos
      have htl := take_len ns k hk
      have hql : (qsK a (sumN ns) (ns.take k)).length = k := by rw [qs_len]; exact htl
      have fd := (show ∀ s : Nat, W * s + X * s / sumN ns = a * s / sumN ns from kfd) (nth ns k)
      have fm := (show ∀ s : Nat, X * s % sumN ns = a * s % sumN ns from kfm) (nth ns k)
      have hWs : W * nth ns k ≤ W * sumN ns := Nat.mul_le_mul_left W hle
      have hXs : X * nth ns k ≤ 12000000 * 1000000 := Nat.mul_le_mul (by omega) hb
      have ed : ((X : Int) * ((nth ns k : Nat) : Int)).tdiv (sumN ns : Int) = ((X * nth ns k / sumN ns : Nat) : Int) := by rw [← Int.natCast_mul]; rfl
      have em : ((X : Int) * ((nth ns k : Nat) : Int)).tmod (sumN ns : Int) = ((a * nth ns k % sumN ns : Nat) : Int) := by rw [← fm, ← Int.natCast_mul]; rfl
      have hr : a * nth ns k % sumN ns < sumN ns := Nat.mod_lt _ hpos
      have eq1 : (W : Int) * ((nth ns k : Nat) : Int) + ((X * nth ns k / sumN ns : Nat) : Int) = ((a * nth ns k / sumN ns : Nat) : Int) := by rw [← fd]; simp
      have b1 : 0 ≤ (W : Int) * ((nth ns k : Nat) : Int) ∧ (W : Int) * ((nth ns k : Nat) : Int) ≤ 1000000000000000 := by
        rw [← Int.natCast_mul]; omega
      have b2 : 0 ≤ (X : Int) * ((nth ns k : Nat) : Int) ∧ (X : Int) * ((nth ns k : Nat) : Int) ≤ 12000000000000 := by
        rw [← Int.natCast_mul]; omega
      obtain ⟨b11, b12⟩ := b1
      obtain ⟨b21, b22⟩ := b2
      have hX2 : X * nth ns k / sumN ns ≤ X * nth ns k := Nat.div_le_self _ _
      clear hsh kfd kfm fd fm hWS hWs hle
      generalize a * nth ns k / sumN ns = q at *
      generalize a * nth ns k % sumN ns = r at *
      generalize X * nth ns k / sumN ns = u at *
      generalize givenK a (sumN ns) (ns.take k) = gk at *
      generalize hqq : qsK a (sumN ns) (ns.take k) = qs at *
      generalize hrr : rsK a (sumN ns) (ns.take k) = rs at *
      have hqn := nth_snoc qs (q : Int) k hql
      have hrl : rs.length = k := by rw [← hrr, rs_len]; exact htl
      clear hqq hrr hXs hX2
      repeat' (first | (with_reducible first | refine awp_seq ?_ | refine awp_blockS ?_ | refine awp_blockC ?_ | refine awp_blockR ?_ | refine awp_skip ?_ | refine awp_ret ?_ | refine awp_exit ?_ | refine awp_region ?_ | refine awp_regionD (id := 22) 8 mixed (by decide +kernel) ?_ | refine awp_regionD (id := 29) 17 mixed (by decide +kernel) ?_ | refine awp_regionD (id := 38) 9 mixed (by decide +kernel) ?_ | refine awp_condM ?_ | refine And.intro ?_ ?_ | apply gQ_merge | apply gE_merge | exact EqV_w | exact EqE_w | exact EqV_ptr | exact EqE_ptr | exact EqV_msl | exact EqE_msl | exact EqV_agg | exact EqE_agg | exact EqV_fn | exact EqE_fn | exact EqV_gd | exact EqE_gd | refine gM_splitN ?_ ?_ | refine gM_split ?_ ?_ |  refine condM_splitDN ?_ ?_ | refine condM_splitD ?_ ?_ | refine condM_splitN ?_ ?_ | refine condM_split ?_ ?_ | refine condM_any ?_ ?_ | intro _) | (simp [*, hlt, hg, hS0, hS1, hS2, ed, em, eq1, hql, hrl, hqn]))
      all_goals try first | exact inI64 (by omega) (by omega) | omega
      all_goals (refine loopK_normal _ _ _ _ _ (k + 1) _ ?_ (by first | omega | (dsimp only; omega) | (simp; omega)) ?_; (· omega); (refine le_gen [] ?_ ?_ <;> first | trivial | (simp [*, (show qsK a (sumN ns) (ns.take (k + 1)) = _ from k1), (show rsK a (sumN ns) (ns.take (k + 1)) = _ from k2), (show givenK a (sumN ns) (ns.take (k + 1)) = _ from k4), hql, hrl]; done)))
    · have hke : k = ns.length := by omega
      subst hke
      clear hsh kfd kfm
      repeat' (first | (with_reducible first | refine awp_seq ?_ | refine awp_blockS ?_ | refine awp_blockC ?_ | refine awp_blockR ?_ | refine awp_skip ?_ | refine awp_ret ?_ | refine awp_exit ?_ | refine awp_region ?_ | refine awp_regionD (id := 22) 8 mixed (by decide +kernel) ?_ | refine awp_regionD (id := 29) 17 mixed (by decide +kernel) ?_ | refine awp_regionD (id := 38) 9 mixed (by decide +kernel) ?_ | refine awp_condM ?_ | refine And.intro ?_ ?_ | apply gQ_merge | apply gE_merge | exact EqV_w | exact EqE_w | exact EqV_ptr | exact EqE_ptr | exact EqV_msl | exact EqE_msl | exact EqV_agg | exact EqE_agg | exact EqV_fn | exact EqE_fn | exact EqV_gd | exact EqE_gd | refine gM_splitN ?_ ?_ | refine gM_split ?_ ?_ |  refine condM_splitDN ?_ ?_ | refine condM_splitD ?_ ?_ | refine condM_splitN ?_ ?_ | refine condM_split ?_ ?_ | refine condM_any ?_ ?_ | intro _) | (simp [*]))
      all_goals (refine finW_intro () ?_ ?_; (· trivial); (refine le_gen [] ?_ ?_ <;> first | trivial | (simp [*, List.take_length]; done)))
  clear hsh kfd kfm hWS hWd hXd
  obtain ⟨N, hN⟩ : ∃ N, ns.length = N + 1 := ⟨ns.length - 1, by omega⟩
  have hsp : splitS a ns = bump (qsK a (sumN ns) ns) ((orderN (rsK a (sumN ns) ns) N).take (a - givenK a (sumN ns) ns)) := by unfold splitS; rw [hN]; rfl
  rw [hsp]
  clear hsp hf
  have hrl : (rsK a (sumN ns) ns).length = N + 1 := by rw [rs_len]; exact hN
  have hql : (qsK a (sumN ns) ns).length = N + 1 := by rw [qs_len]; exact hN
  have hr0 : ∀ i, i < N + 1 → 0 ≤ nth (rsK a (sumN ns) ns) i := fun i hi => by rw [nth_rs a (sumN ns) ns i (by omega)]; exact Int.natCast_nonneg _
  have hol := orderN_len (rsK a (sumN ns) ns) N
  have holt := orderN_lt (rsK a (sumN ns) ns) N
  have hqb : ∀ j, j < (qsK a (sumN ns) ns).length → 0 ≤ nth (qsK a (sumN ns) ns) j ∧ nth (qsK a (sumN ns) ns) j ≤ 1000000000000000 := by
    intro j hj
    rw [qs_len] at hj
    have hq := div_bd (a := a) (nth_le_sum ns j hj) hpos
    rw [nth_qs a (sumN ns) ns j hj]
    generalize a * nth ns j / sumN ns = q at *
    omega
  generalize rsK a (sumN ns) ns = rs at *
  generalize qsK a (sumN ns) ns = qs at *
  generalize hgg : givenK a (sumN ns) ns = g at *
  clear hgg hS hpos hti hS0 hS1 hS2 hW hX
  generalize sumN ns = S at *
  simp only [hN]
  have kbo := keep (fun j hj => best_order rs N hrl hr0 j hj)
  clear hr0
  have kqb := keep hqb
  clear hqb
  have kolt := keep holt
  clear holt
  repeat' (first | (with_reducible first | refine awp_seq ?_ | refine awp_blockS ?_ | refine awp_blockC ?_ | refine awp_blockR ?_ | refine awp_skip ?_ | refine awp_ret ?_ | refine awp_exit ?_ | refine awp_region ?_ | refine awp_regionD (id := 22) 8 mixed (by decide +kernel) ?_ | refine awp_regionD (id := 29) 17 mixed (by decide +kernel) ?_ | refine awp_regionD (id := 38) 9 mixed (by decide +kernel) ?_ | refine awp_condM ?_ | refine And.intro ?_ ?_ | apply gQ_merge | apply gE_merge | exact EqV_w | exact EqE_w | exact EqV_ptr | exact EqE_ptr | exact EqV_msl | exact EqE_msl | exact EqV_agg | exact EqE_agg | exact EqV_fn | exact EqE_fn | exact EqV_gd | exact EqE_gd | refine gM_splitN ?_ ?_ | refine gM_split ?_ ?_ |  refine condM_splitDN ?_ ?_ | refine condM_splitD ?_ ?_ | refine condM_splitN ?_ ?_ | refine condM_split ?_ ?_ | refine condM_any ?_ ?_ | intro _) | (simp [*]))
  refine awp_for3 (fun (j : Nat) => j ≤ a - g) [0, 14, 15] (fun (j : Nat) => [(16, .w false false (.int .i64 ((g + j : Nat) : Int)))]) [] (fun (j : Nat) => [(0, iA (bump qs ((orderN rs N).take j))), (1, iA (mark rs ((orderN rs N).take j)))]) (fun (j : Nat) => a - g - j) (fun (_u : Unit) => True) [14] (fun (_u : Unit) => []) [] (fun (_u : Unit) => [(0, iA (bump qs ((orderN rs N).take (a - g))))]) (0) (Nat.zero_le _) (by simp) (by simp) (fun j hk => ?_) (fun _u hf => ?_)
  · by_cases hlt : j < a - g
    · have hI : (g : Int) + (j : Int) < (a : Int) := by omega
      have hbo := (show ∀ j, j < N + 1 → bestK (mark rs ((orderN rs N).take j)) (N + 1) = nth (orderN rs N) j from kbo) j (by omega)
      have hx := (show ∀ k, k < N + 1 → nth (orderN rs N) k < N + 1 from kolt) j (by omega)
      have kb := keep (bump_snoc (nth (orderN rs N) j) ((orderN rs N).take j) qs)
      have km := keep (mark_snoc (nth (orderN rs N) j) ((orderN rs N).take j) rs)
      have kt := keep (take_succ_nth (orderN rs N) j (by omega))
      have hbb := bump_bd 1000000000000000 N ((orderN rs N).take j) qs (fun i hi => by
        obtain ⟨j', hj', rfl⟩ := mem_nth hi
        rw [take_len _ _ (by omega)] at hj'
        rw [nth_take _ _ _ hj', hql]; exact (show ∀ k, k < N + 1 → nth (orderN rs N) k < N + 1 from kolt) j' (by omega)) (show ∀ j, j < qs.length → 0 ≤ nth qs j ∧ nth qs j ≤ 1000000000000000 from kqb) (nth (orderN rs N) j) (by rw [hql]; omega)
      rw [take_len _ _ (by omega)] at hbb
      have hbl : (bump qs ((orderN rs N).take j)).length = N + 1 := by rw [bump_len]; exact hql
      have hml : (mark rs ((orderN rs N).take j)).length = N + 1 := by rw [mark_len]; exact hrl
      generalize nth (orderN rs N) j = x at *
      clear kbo kqb kolt
      generalize bump qs ((orderN rs N).take j) = out at *
      generalize mark rs ((orderN rs N).take j) = M at *
      have kbo2 := keep hbo
      clear hbo
      have kbb := keep hbb
      clear hbb
      repeat' (first | (with_reducible first | refine awp_seq ?_ | refine awp_blockS ?_ | refine awp_blockC ?_ | refine awp_blockR ?_ | refine awp_skip ?_ | refine awp_ret ?_ | refine awp_exit ?_ | refine awp_region ?_ | refine awp_regionD (id := 22) 8 mixed (by decide +kernel) ?_ | refine awp_regionD (id := 29) 17 mixed (by decide +kernel) ?_ | refine awp_regionD (id := 38) 9 mixed (by decide +kernel) ?_ | refine awp_condM ?_ | refine And.intro ?_ ?_ | apply gQ_merge | apply gE_merge | exact EqV_w | exact EqE_w | exact EqV_ptr | exact EqE_ptr | exact EqV_msl | exact EqE_msl | exact EqV_agg | exact EqE_agg | exact EqV_fn | exact EqE_fn | exact EqV_gd | exact EqE_gd | refine gM_splitN ?_ ?_ | refine gM_split ?_ ?_ |  refine condM_splitDN ?_ ?_ | refine condM_splitD ?_ ?_ | refine condM_splitN ?_ ?_ | refine condM_split ?_ ?_ | refine condM_any ?_ ?_ | intro _) | (simp [*, hI]))
      all_goals try first | exact inI64 (by omega) (by omega) | omega
      refine awp_for3 (fun (i : Nat) => 1 ≤ i ∧ i ≤ N + 1) [0, 14, 15, 16] (fun (i : Nat) => [(19, .w false false (.int .i64 i)), (18, .w false false (.int .i64 ((bestK M i : Nat) : Int)))]) [0, 1] (fun (i : Nat) => []) (fun (i : Nat) => N + 1 - i) (fun (_u : Unit) => True) [0, 14, 15, 16] (fun (_u : Unit) => [(18, .w false false (.int .i64 ((bestK M (N + 1) : Nat) : Int)))]) [0, 1] (fun (_u : Unit) => []) (1) ⟨Nat.le_refl _, by omega⟩ (by simp) (by simp) (fun i hk => ?_) (fun _u hf => ?_)
      · obtain ⟨hi1, hi2⟩ := hk
        by_cases hi : i < N + 1
        · have hbi := bestK_lt M i hi1
          have hy := bestK_yes M i
          have hn := bestK_no M i
          generalize bestK M i = bi at *
          have hbi2 : bi < N + 1 := by omega
          by_cases hq : nth M bi < nth M i
          · have ks := keep (hy hq)
            clear hy hn
            repeat' (first | (with_reducible first | refine awp_seq ?_ | refine awp_blockS ?_ | refine awp_blockC ?_ | refine awp_blockR ?_ | refine awp_skip ?_ | refine awp_ret ?_ | refine awp_exit ?_ | refine awp_region ?_ | refine awp_regionD (id := 22) 8 mixed (by decide +kernel) ?_ | refine awp_regionD (id := 29) 17 mixed (by decide +kernel) ?_ | refine awp_regionD (id := 38) 9 mixed (by decide +kernel) ?_ | refine awp_condM ?_ | refine And.intro ?_ ?_ | apply gQ_merge | apply gE_merge | exact EqV_w | exact EqE_w | exact EqV_ptr | exact EqE_ptr | exact EqV_msl | exact EqE_msl | exact EqV_agg | exact EqE_agg | exact EqV_fn | exact EqE_fn | exact EqV_gd | exact EqE_gd | refine gM_splitN ?_ ?_ | refine gM_split ?_ ?_ |  refine condM_splitDN ?_ ?_ | refine condM_splitD ?_ ?_ | refine condM_splitN ?_ ?_ | refine condM_split ?_ ?_ | refine condM_any ?_ ?_ | intro _) | (simp [*, hi, hbi2, hml, hq]))
            all_goals try first | exact inI64 (by omega) (by omega) | omega
            all_goals (refine loopK_normal _ _ _ _ _ (i + 1) _ ?_ (by first | omega | (dsimp only; omega) | (simp; omega)) ?_; (· omega); (refine le_of ?_ ?_ <;> first | trivial | (simp [*, (show bestK M (i + 1) = _ from ks)]; done)))
          · have ks := keep (hn hq)
            clear hy hn
            repeat' (first | (with_reducible first | refine awp_seq ?_ | refine awp_blockS ?_ | refine awp_blockC ?_ | refine awp_blockR ?_ | refine awp_skip ?_ | refine awp_ret ?_ | refine awp_exit ?_ | refine awp_region ?_ | refine awp_regionD (id := 22) 8 mixed (by decide +kernel) ?_ | refine awp_regionD (id := 29) 17 mixed (by decide +kernel) ?_ | refine awp_regionD (id := 38) 9 mixed (by decide +kernel) ?_ | refine awp_condM ?_ | refine And.intro ?_ ?_ | apply gQ_merge | apply gE_merge | exact EqV_w | exact EqE_w | exact EqV_ptr | exact EqE_ptr | exact EqV_msl | exact EqE_msl | exact EqV_agg | exact EqE_agg | exact EqV_fn | exact EqE_fn | exact EqV_gd | exact EqE_gd | refine gM_splitN ?_ ?_ | refine gM_split ?_ ?_ |  refine condM_splitDN ?_ ?_ | refine condM_splitD ?_ ?_ | refine condM_splitN ?_ ?_ | refine condM_split ?_ ?_ | refine condM_any ?_ ?_ | intro _) | (simp [*, hi, hbi2, hml, hq]))
            all_goals try first | exact inI64 (by omega) (by omega) | omega
            all_goals (refine loopK_normal _ _ _ _ _ (i + 1) _ ?_ (by first | omega | (dsimp only; omega) | (simp; omega)) ?_; (· omega); (refine le_of ?_ ?_ <;> first | trivial | (simp [*, (show bestK M (i + 1) = _ from ks)]; done)))
        · have hke : i = N + 1 := by omega
          subst hke
          repeat' (first | (with_reducible first | refine awp_seq ?_ | refine awp_blockS ?_ | refine awp_blockC ?_ | refine awp_blockR ?_ | refine awp_skip ?_ | refine awp_ret ?_ | refine awp_exit ?_ | refine awp_region ?_ | refine awp_regionD (id := 22) 8 mixed (by decide +kernel) ?_ | refine awp_regionD (id := 29) 17 mixed (by decide +kernel) ?_ | refine awp_regionD (id := 38) 9 mixed (by decide +kernel) ?_ | refine awp_condM ?_ | refine And.intro ?_ ?_ | apply gQ_merge | apply gE_merge | exact EqV_w | exact EqE_w | exact EqV_ptr | exact EqE_ptr | exact EqV_msl | exact EqE_msl | exact EqV_agg | exact EqE_agg | exact EqV_fn | exact EqE_fn | exact EqV_gd | exact EqE_gd | refine gM_splitN ?_ ?_ | refine gM_split ?_ ?_ |  refine condM_splitDN ?_ ?_ | refine condM_splitD ?_ ?_ | refine condM_splitN ?_ ?_ | refine condM_split ?_ ?_ | refine condM_any ?_ ?_ | intro _) | (simp [*, hml]))
          all_goals (refine finW_intro () ?_ ?_; (· trivial); (refine le_of ?_ ?_ <;> first | trivial | (simp [*]; done)))
      · have hbo := (show bestK M (N + 1) = x from kbo2)
        rw [hbo]
        clear hbo kbo2
        obtain ⟨hb1, hb2⟩ := (show 0 ≤ nth out x ∧ nth out x ≤ 1000000000000000 + (j : Int) from kbb)
        clear kbb
        have hj3 : (g : Int) + ((j : Int) + 1) = (g : Int) + (j : Int) + 1 := by omega
        repeat' (first | (with_reducible first | refine awp_seq ?_ | refine awp_blockS ?_ | refine awp_blockC ?_ | refine awp_blockR ?_ | refine awp_skip ?_ | refine awp_ret ?_ | refine awp_exit ?_ | refine awp_region ?_ | refine awp_regionD (id := 22) 8 mixed (by decide +kernel) ?_ | refine awp_regionD (id := 29) 17 mixed (by decide +kernel) ?_ | refine awp_regionD (id := 38) 9 mixed (by decide +kernel) ?_ | refine awp_condM ?_ | refine And.intro ?_ ?_ | apply gQ_merge | apply gE_merge | exact EqV_w | exact EqE_w | exact EqV_ptr | exact EqE_ptr | exact EqV_msl | exact EqE_msl | exact EqV_agg | exact EqE_agg | exact EqV_fn | exact EqE_fn | exact EqV_gd | exact EqE_gd | refine gM_splitN ?_ ?_ | refine gM_split ?_ ?_ |  refine condM_splitDN ?_ ?_ | refine condM_splitD ?_ ?_ | refine condM_splitN ?_ ?_ | refine condM_split ?_ ?_ | refine condM_any ?_ ?_ | intro _) | (simp [*, hx, hbl, hml]))
        all_goals try first | exact inI64 (by omega) (by omega) | omega
        all_goals (refine loopK_normal _ _ _ _ _ (j + 1) _ ?_ (by first | omega | (dsimp only; omega) | (simp; omega)) ?_; (· omega); (refine le_of ?_ ?_ <;> first | trivial | (simp [*, hj3, (show (orderN rs N).take (j + 1) = _ from kt), (show bump qs ((orderN rs N).take j ++ [x]) = _ from kb), (show mark rs ((orderN rs N).take j ++ [x]) = _ from km)]; done)))
    · have hke : j = a - g := by omega
      have hI : ¬ (g : Int) + (j : Int) < (a : Int) := by omega
      subst hke
      clear kbo kqb kolt
      repeat' (first | (with_reducible first | refine awp_seq ?_ | refine awp_blockS ?_ | refine awp_blockC ?_ | refine awp_blockR ?_ | refine awp_skip ?_ | refine awp_ret ?_ | refine awp_exit ?_ | refine awp_region ?_ | refine awp_regionD (id := 22) 8 mixed (by decide +kernel) ?_ | refine awp_regionD (id := 29) 17 mixed (by decide +kernel) ?_ | refine awp_regionD (id := 38) 9 mixed (by decide +kernel) ?_ | refine awp_condM ?_ | refine And.intro ?_ ?_ | apply gQ_merge | apply gE_merge | exact EqV_w | exact EqE_w | exact EqV_ptr | exact EqE_ptr | exact EqV_msl | exact EqE_msl | exact EqV_agg | exact EqE_agg | exact EqV_fn | exact EqE_fn | exact EqV_gd | exact EqE_gd | refine gM_splitN ?_ ?_ | refine gM_split ?_ ?_ |  refine condM_splitDN ?_ ?_ | refine condM_splitD ?_ ?_ | refine condM_splitN ?_ ?_ | refine condM_split ?_ ?_ | refine condM_any ?_ ?_ | intro _) | (simp [*, hI]))
      all_goals (refine finW_intro () ?_ ?_; (· trivial); (refine le_of ?_ ?_ <;> first | trivial | (simp [*]; done)))
  · clear kbo kqb kolt
    repeat' (first | (with_reducible first | refine awp_seq ?_ | refine awp_blockS ?_ | refine awp_blockC ?_ | refine awp_blockR ?_ | refine awp_skip ?_ | refine awp_ret ?_ | refine awp_exit ?_ | refine awp_region ?_ | refine awp_regionD (id := 22) 8 mixed (by decide +kernel) ?_ | refine awp_regionD (id := 29) 17 mixed (by decide +kernel) ?_ | refine awp_regionD (id := 38) 9 mixed (by decide +kernel) ?_ | refine awp_condM ?_ | refine And.intro ?_ ?_ | apply gQ_merge | apply gE_merge | exact EqV_w | exact EqE_w | exact EqV_ptr | exact EqE_ptr | exact EqV_msl | exact EqE_msl | exact EqV_agg | exact EqE_agg | exact EqV_fn | exact EqE_fn | exact EqV_gd | exact EqE_gd | refine gM_splitN ?_ ?_ | refine gM_split ?_ ?_ |  refine condM_splitDN ?_ ?_ | refine condM_splitD ?_ ?_ | refine condM_splitN ?_ ?_ | refine condM_split ?_ ?_ | refine condM_any ?_ ?_ | intro _) | (simp [*]))
end Go.Proofs.YtdgbfbgnbgfmjaaGreatDoor
namespace Go.Proofs.YtdgbfbgnbgfmjaaGreatDoor
open Go Go.Fi
set_option maxRecDepth 20000

/-! ### the document's entry of a trip -/
theorem mkreal {P : Program} {f : FuncId} {args : List PV} {E : List (List AV)} {v : AV} {res : PV} (h : MkCall P f args E v) (hz : frz (addE [] 0 E) 6 v = some res) (hf : freshA (addE [] 0 E) 6 v = true) : RealCall P f args res true := by
  obtain ⟨he, _, _, hc⟩ := h
  refine ⟨he, fun G w vs hok hl hr => (hc G w vs hok hl hr).mono ?_⟩
  rintro e w' ⟨u, mm, rfl, hb, hd, hs, hrep⟩
  exact ⟨u, rfl, hb, frz_rep (B := ⟨w.heap.size, G⟩) hs (fun id cs e => hget_mem e) true (fun b hb => ⟨fun hl => by simp only at hb; omega, fun _ => hb⟩) (fun hf => by cases hf) 6 _ _ _ hz (fun _ => hf) hrep⟩
theorem rSplit_real {r : Rule} (hs : SharesOk r) (h0 : shareE (sharesOf r) = 0) {f : Int} (f0 : 0 ≤ f) (f1 : f ≤ 1000000000) : RealCall Tryz.prog 19 [.int .i64 f, .sl 3 [.int .i64 r.s0, .int .i64 r.s1, .int .i64 r.s2]] (.tup [.sl 3 (ints (partsS r f)), .int .i64 0]) true := by
  have h := rSplit_mk f.toNat (sharesN r) (hs.split f0 f1).1 (by show 3 ≤ 12; decide) (by rw [hs.toI]; exact h0)
  rw [Int.toNat_of_nonneg f0, hs.toI] at h
  have hp := partsS_len r f
  unfold partsS at hp ⊢
  refine mkreal h ?_ ?_
  · generalize splitS f.toNat (sharesN r) = p at *
    rw [show (sharesN r).length = 3 from rfl]
    have ht : (ints p).take 3 = ints p := by rw [ints_take, List.take_of_length_le (by omega)]
    simp [addE, frz, hp, ht]
  · generalize splitS f.toNat (sharesN r) = p at *
    rw [show (sharesN r).length = 3 from rfl]
    simp [addE, freshA]
theorem split_fare {r : Rule} (hs : SharesOk r) {f : Int} (f0 : 0 ≤ f) (f1 : f ≤ 1000000000) : MkCall Tryz.prog 86 [.int .i64 f, .sl 3 [.int .i64 r.s0, .int .i64 r.s1, .int .i64 r.s2]] [iA (partsS r f)] (.msl 0 3 1 0 3) := by
  have h := split_mk f.toNat (sharesN r) (hs.split f0 f1).1 (hs.split f0 f1).2
  rw [Int.toNat_of_nonneg f0, hs.toI] at h
  exact h
def allL (r : Rule) (f t v : Int) (p : List Int) : List Line := [⟨r.cash, f + t - v⟩, ⟨r.vouch, v⟩, ⟨r.owner, -(nth p 0)⟩, ⟨r.driver, -(nth p 1)⟩, ⟨r.office, -(nth p 2)⟩, ⟨r.driver, -t⟩]
def nzK (l : List Line) : Nat → List Line
  | 0 => []
  | k + 1 => addL (nzK l k) (nth l k).acc (nth l k).amt
@[simp] theorem nzK_zero (l : List Line) : nzK l 0 = [] := rfl
theorem nzK_yes (l : List Line) (k : Nat) (h : ¬ (nth l k).amt = 0) : nzK l (k + 1) = nzK l k ++ [⟨(nth l k).acc, (nth l k).amt⟩] := if_neg h
theorem nzK_no (l : List Line) (k : Nat) (h : (nth l k).amt = 0) : nzK l (k + 1) = nzK l k := if_pos h
theorem fareL_nz (r : Rule) (f t v : Int) (p : List Int) : fareL r f t v p = nzK (allL r f t v p) 6 := rfl
theorem nzK_len (l : List Line) : ∀ k, (nzK l k).length ≤ k
  | 0 => Nat.le_refl 0
  | k + 1 => by
    have ih := nzK_len l k
    have := addL_len (nzK l k) (nth l k).acc (nth l k).amt
    unfold nzK
    omega
theorem lA_0 (l : List Line) (k : Nat) (h : k < l.length) : nthA (lA l) (k * 2) = .w false false (.str (nth l k).acc) := by
  unfold lA; rw [nthA_map _ _ _ (by simp; omega), cLines_0 l k h]
theorem lA_1 (l : List Line) (k : Nat) (h : k < l.length) : nthA (lA l) (k * 2 + 1) = .w false false (.int .i64 (nth l k).amt) := by
  unfold lA; rw [nthA_map _ _ _ (by simp; omega), cLines_1 l k h]
theorem lA_drop (l : List Line) (k : Nat) (h : k < l.length) : ((lA l).drop (k * 2)).take 2 = [.w false false (.str (nth l k).acc), .w false false (.int .i64 (nth l k).amt)] := by
  unfold lA; rw [← List.map_drop, ← List.map_take, cLines_drop l k h]; rfl
theorem lA_six (r : Rule) (f t v : Int) (p : List Int) : lA (allL r f t v p) = [.w false false (.str r.cash), .w false false (.int .i64 (f + t - v)), .w false false (.str r.vouch), .w false false (.int .i64 v), .w false false (.str r.owner), .w false false (.int .i64 (-(nth p 0))), .w false false (.str r.driver), .w false false (.int .i64 (-(nth p 1))), .w false false (.str r.office), .w false false (.int .i64 (-(nth p 2))), .w false false (.str r.driver), .w false false (.int .i64 (-t))] := rfl
set_option maxHeartbeats 16000000 in
theorem rFareEntry_ok (r : Rule) (t : Trip) (hs : SharesOk r) (h0 : shareE (sharesOf r) = 0) (hn : t.note.size < 1000000) (h : fareChk 0 t = 0) : RealCall Tryz.prog 42 [.agg (cRule r), .agg (cTrip t)] (.tup [.agg (cEntry (fareR r t).1), .int .i64 (fareR r t).2]) true := by
  have hz := firstS_zero h
  have c1 := rDateErr_c t.date
  have c2 := rNoteErr_c t.note hn
  rw [hz (dateE t.date) (by simp)] at c1
  rw [hz (noteE t.note) (by simp)] at c2
  obtain ⟨td, tn, ⟨f1, f2⟩, ⟨t1, t2⟩, ⟨v1, v2⟩, tl⟩ := fareChk_zero h
  have m1 := isMoney_c t.fare
  have m2 := isMoney_c t.tip
  have m3 := isMoney_c t.voucher
  rw [winB_iff.2 ⟨f1, f2⟩] at m1
  rw [winB_iff.2 ⟨t1, t2⟩] at m2
  rw [winB_iff.2 ⟨v1, v2⟩] at m3
  have c3 := rSplit_real hs h0 f1 f2
  have hp0 := parts_pos hs t.fare 0 (by decide)
  have hp1 := parts_pos hs t.fare 1 (by decide)
  have hp2 := parts_pos hs t.fare 2 (by decide)
  have hq0 := parts_le hs f1 0 (by decide)
  have hq1 := parts_le hs f1 1 (by decide)
  have hq2 := parts_le hs f1 2 (by decide)
  have hpl := partsS_len r t.fare
  have hle : ¬ t.fare < t.voucher := by omega
  have hR : fareR r t = if (nzK (allL r t.fare t.tip t.voucher (partsS r t.fare)) 6).length = 0 then (noEntry, 12) else largestS ⟨t.date, t.note, nzK (allL r t.fare t.tip t.voucher (partsS r t.fare)) 6⟩ := by
    unfold fareR
    rw [if_pos h]
    rfl
  have c4 := tooMuch_c ⟨t.date, t.note, nzK (allL r t.fare t.tip t.voucher (partsS r t.fare)) 6⟩ (by have := nzK_len (allL r t.fare t.tip t.voucher (partsS r t.fare)) 6; dsimp only; omega)
  unfold largestS at hR
  generalize muchB ⟨t.date, t.note, nzK (allL r t.fare t.tip t.voucher (partsS r t.fare)) 6⟩ = mb at *
  have kR := keep hR
  clear hR hz hs h0 td tn h hn tl
  generalize fareR r t = R at *
  obtain ⟨R1, R2⟩ := R
  obtain ⟨td, tn, tf, tt, tv⟩ := t
  obtain ⟨ro, rd, rf, s0, s1, s2, rc, rv⟩ := r
  unfold cTrip cRule
  dsimp only at *
  generalize partsS ⟨ro, rd, rf, s0, s1, s2, rc, rv⟩ tf = p at *
  have e6 := lA_six ⟨ro, rd, rf, s0, s1, s2, rc, rv⟩ tf tt tv p
  dsimp only at e6
  have hal : (allL ⟨ro, rd, rf, s0, s1, s2, rc, rv⟩ tf tt tv p).length = 6 := rfl
  generalize allL ⟨ro, rd, rf, s0, s1, s2, rc, rv⟩ tf tt tv p = al at *
  have kc4 := keep c4
  clear c4
  refine realcall_intro Tryz.func42 (by kernel_rfl) rfl (Nat.le_of_ble_eq_true (by kernel_rfl)) ?_
  simp only [Tryz.results42, Tryz.ntmps42]
  repeat' (first | (with_reducible first | refine awp_join (x := .region 9 _ _) (fun _ : Unit => True) 3 [3, 4] (fun _ => [(2, .w false false (.ip [.str ro, .str rd, .str rf, .int .i64 s0, .int .i64 s1, .int .i64 s2, .str rc, .str rv] 0)), (48, .w false false (.bool false))]) (fun _ => [(1, [.w false false (.int .i64 td), .w false false (.str tn), .w false false (.int .i64 tf), .w false false (.int .i64 tt), .w false false (.int .i64 tv)]), (2, [.w false false (.int .i64 0), .w false false (.str ByteArray.empty), .w true true (.sl 0 [])])]) ?_ (fun _ _ => ?_) | refine awp_seq ?_ | refine awp_blockS ?_ | refine awp_blockC ?_ | refine awp_blockR ?_ | refine awp_skip ?_ | refine awp_ret ?_ | refine awp_exit ?_ | refine awp_region ?_ | refine awp_regionD (id := 11) 10 mixed (by decide +kernel) ?_ | refine awp_regionD (id := 12) 45 mixed (by decide +kernel) ?_ | refine awp_regionD (id := 18) 7 mixed (by decide +kernel) ?_ | refine awp_condM ?_ | refine And.intro ?_ ?_ | apply gQ_merge | apply gE_merge | exact EqV_w | exact EqE_w | exact EqV_ptr | exact EqE_ptr | exact EqV_msl | exact EqE_msl | exact EqV_agg | exact EqE_agg | exact EqV_fn | exact EqE_fn | exact EqV_gd | exact EqE_gd | refine gM_splitN ?_ ?_ | refine gM_split ?_ ?_ |  refine condM_splitDN ?_ ?_ | refine condM_splitD ?_ ?_ | refine condM_splitN ?_ ?_ | refine condM_split ?_ ?_ | refine condM_any ?_ ?_ | refine cw (c1) ?_ | refine cw (c2) ?_ | refine cw (c3) ?_ | refine cw (m1) ?_ | refine cw (m2) ?_ | refine cw (m3) ?_ | intro _) | (simp [*, hle, hpl, repl]) | (refine cw_eq (c1) ?_ ?_; (· (simp [*]; done))) | (refine cw_eq (c2) ?_ ?_; (· (simp [*]; done))) | (refine cw_eq (c3) ?_ ?_; (· (simp [*]; done))) | (refine cw_eq (m1) ?_ ?_; (· (simp [*]; done))) | (refine cw_eq (m2) ?_ ?_; (· (simp [*]; done))) | (refine cw_eq (m3) ?_ ?_; (· (simp [*]; done))))
  all_goals try first | exact inI64 (by omega) (by omega) | omega
  · (refine finW_intro () ?_ ?_; (· trivial); (refine le_gen [0] ?_ ?_ <;> first | trivial | (simp [*]; done)))
  clear c1 c2 c3 m1 m2 m3
  refine awp_for4 6 (fun (k : Nat) => k ≤ 6) [4, 10, 11] (fun (k : Nat) => [(12, .w false false (.int .i64 k))]) [2] (fun (k : Nat) => [(3, lA al), (4, [.w false false (.int .i64 td), .w false false (.str tn), .msl 5 ((nzK al k).length * 2) 2 0 (nzK al k).length]), (5, lA (nzK al k))]) (fun (k : Nat) => 6 - k) (fun (_u : Unit) => True) [4, 11] (fun (_u : Unit) => []) [2] (fun (_u : Unit) => [(4, [.w false false (.int .i64 td), .w false false (.str tn), .msl 5 ((nzK al 6).length * 2) 2 0 (nzK al 6).length]), (5, lA (nzK al 6))]) (0) (Nat.zero_le _) (le_gen [] (by simp [e6]) (by simp [e6])) (fun k hk => ?_) (fun _u hf => ?_)
  · by_cases hlt : k < 6
    · have hltI : (k : Int) < 6 := by omega
      have g1 := lA_1 al k (by omega)
      have g2 := lA_drop al k (by omega)
      have hy := nzK_yes al k
      have hno := nzK_no al k
      have hl := nzK_len al k
      clear kR kc4 e6
      generalize nzK al k = ls at *
      by_cases hq : (nth al k).amt = 0
      · have ks := keep (hno hq)
        clear hy hno
        repeat' (first | (with_reducible first | refine awp_seq ?_ | refine awp_blockS ?_ | refine awp_blockC ?_ | refine awp_blockR ?_ | refine awp_skip ?_ | refine awp_ret ?_ | refine awp_exit ?_ | refine awp_region ?_ | refine awp_regionD (id := 11) 10 mixed (by decide +kernel) ?_ | refine awp_regionD (id := 12) 45 mixed (by decide +kernel) ?_ | refine awp_regionD (id := 18) 7 mixed (by decide +kernel) ?_ | refine awp_condM ?_ | refine And.intro ?_ ?_ | apply gQ_merge | apply gE_merge | exact EqV_w | exact EqE_w | exact EqV_ptr | exact EqE_ptr | exact EqV_msl | exact EqE_msl | exact EqV_agg | exact EqE_agg | exact EqV_fn | exact EqE_fn | exact EqV_gd | exact EqE_gd | refine gM_splitN ?_ ?_ | refine gM_split ?_ ?_ |  refine condM_splitDN ?_ ?_ | refine condM_splitD ?_ ?_ | refine condM_splitN ?_ ?_ | refine condM_split ?_ ?_ | refine condM_any ?_ ?_ | intro _) | (simp [*, hlt, hltI, hal, g1, g2, hq]))
        all_goals try first | exact inI64 (by omega) (by omega) | omega
        all_goals (refine loopK_normal _ _ _ _ _ (k + 1) _ ?_ (by first | omega | (dsimp only; omega) | (simp; omega)) ?_; (· omega); (refine le_gen [] ?_ ?_ <;> first | trivial | (simp [*, (show nzK al (k + 1) = _ from ks)]; done)))
      · have ks := keep (hy hq)
        clear hy hno
        repeat' (first | (with_reducible first | refine awp_seq ?_ | refine awp_blockS ?_ | refine awp_blockC ?_ | refine awp_blockR ?_ | refine awp_skip ?_ | refine awp_ret ?_ | refine awp_exit ?_ | refine awp_region ?_ | refine awp_regionD (id := 11) 10 mixed (by decide +kernel) ?_ | refine awp_regionD (id := 12) 45 mixed (by decide +kernel) ?_ | refine awp_regionD (id := 18) 7 mixed (by decide +kernel) ?_ | refine awp_condM ?_ | refine And.intro ?_ ?_ | apply gQ_merge | apply gE_merge | exact EqV_w | exact EqE_w | exact EqV_ptr | exact EqE_ptr | exact EqV_msl | exact EqE_msl | exact EqV_agg | exact EqE_agg | exact EqV_fn | exact EqE_fn | exact EqV_gd | exact EqE_gd | refine gM_splitN ?_ ?_ | refine gM_split ?_ ?_ |  refine condM_splitDN ?_ ?_ | refine condM_splitD ?_ ?_ | refine condM_splitN ?_ ?_ | refine condM_split ?_ ?_ | refine condM_any ?_ ?_ | intro _) | (simp [*, hlt, hltI, hal, g1, g2, hq]))
        all_goals try first | exact inI64 (by omega) (by omega) | omega
        all_goals (refine loopK_normal _ _ _ _ _ (k + 1) _ ?_ (by first | omega | (dsimp only; omega) | (simp; omega)) ?_; (· omega); (refine le_gen [] ?_ ?_ <;> first | trivial | (simp [*, (show nzK al (k + 1) = _ from ks), Nat.add_mul]; done)))
    · have hke : k = 6 := by omega
      subst hke
      clear kR kc4 e6
      repeat' (first | (with_reducible first | refine awp_seq ?_ | refine awp_blockS ?_ | refine awp_blockC ?_ | refine awp_blockR ?_ | refine awp_skip ?_ | refine awp_ret ?_ | refine awp_exit ?_ | refine awp_region ?_ | refine awp_regionD (id := 11) 10 mixed (by decide +kernel) ?_ | refine awp_regionD (id := 12) 45 mixed (by decide +kernel) ?_ | refine awp_regionD (id := 18) 7 mixed (by decide +kernel) ?_ | refine awp_condM ?_ | refine And.intro ?_ ?_ | apply gQ_merge | apply gE_merge | exact EqV_w | exact EqE_w | exact EqV_ptr | exact EqE_ptr | exact EqV_msl | exact EqE_msl | exact EqV_agg | exact EqE_agg | exact EqV_fn | exact EqE_fn | exact EqV_gd | exact EqE_gd | refine gM_splitN ?_ ?_ | refine gM_split ?_ ?_ |  refine condM_splitDN ?_ ?_ | refine condM_splitD ?_ ?_ | refine condM_splitN ?_ ?_ | refine condM_split ?_ ?_ | refine condM_any ?_ ?_ | intro _) | (simp [*]))
      all_goals (refine finW_intro () ?_ ?_; (· trivial); (refine le_gen [] ?_ ?_ <;> first | trivial | (simp [*]; done)))
  · have hl := nzK_len al 6
    have c4 := (show RealCall Tryz.prog 115 [.agg (cEntry ⟨td, tn, nzK al 6⟩)] (.bool mb) true from kc4)
    have hR := (show (R1, R2) = if (nzK al 6).length = 0 then (noEntry, 12) else if mb = true then (noEntry, 8) else (⟨td, tn, nzK al 6⟩, 0) from kR)
    clear kR kc4 e6
    generalize nzK al 6 = ls at *
    unfold cEntry at c4
    dsimp only at c4
    by_cases hz : ls.length = 0
    · rw [if_pos hz] at hR
      injection hR with hR1 hR2
      subst hR1; subst hR2
      have hzI : (ls.length : Int) = 0 := by omega
      clear c4
      unfold cEntry noEntry
      repeat' (first | (with_reducible first | refine awp_seq ?_ | refine awp_blockS ?_ | refine awp_blockC ?_ | refine awp_blockR ?_ | refine awp_skip ?_ | refine awp_ret ?_ | refine awp_exit ?_ | refine awp_region ?_ | refine awp_regionD (id := 11) 10 mixed (by decide +kernel) ?_ | refine awp_regionD (id := 12) 45 mixed (by decide +kernel) ?_ | refine awp_regionD (id := 18) 7 mixed (by decide +kernel) ?_ | refine awp_condM ?_ | refine And.intro ?_ ?_ | apply gQ_merge | apply gE_merge | exact EqV_w | exact EqE_w | exact EqV_ptr | exact EqE_ptr | exact EqV_msl | exact EqE_msl | exact EqV_agg | exact EqE_agg | exact EqV_fn | exact EqE_fn | exact EqV_gd | exact EqE_gd | refine gM_splitN ?_ ?_ | refine gM_split ?_ ?_ |  refine condM_splitDN ?_ ?_ | refine condM_splitD ?_ ?_ | refine condM_splitN ?_ ?_ | refine condM_split ?_ ?_ | refine condM_any ?_ ?_ | intro _) | (simp [*, hz, hzI, repl]))
      all_goals rfl
    · rw [if_neg hz] at hR
      have hzI : ¬ (ls.length : Int) = 0 := by omega
      cases mb with
      | true =>
        rw [if_pos rfl] at hR
        injection hR with hR1 hR2
        subst hR1; subst hR2
        unfold cEntry noEntry
        repeat' (first | (with_reducible first | refine awp_seq ?_ | refine awp_blockS ?_ | refine awp_blockC ?_ | refine awp_blockR ?_ | refine awp_skip ?_ | refine awp_ret ?_ | refine awp_exit ?_ | refine awp_region ?_ | refine awp_regionD (id := 11) 10 mixed (by decide +kernel) ?_ | refine awp_regionD (id := 12) 45 mixed (by decide +kernel) ?_ | refine awp_regionD (id := 18) 7 mixed (by decide +kernel) ?_ | refine awp_condM ?_ | refine And.intro ?_ ?_ | apply gQ_merge | apply gE_merge | exact EqV_w | exact EqE_w | exact EqV_ptr | exact EqE_ptr | exact EqV_msl | exact EqE_msl | exact EqV_agg | exact EqE_agg | exact EqV_fn | exact EqE_fn | exact EqV_gd | exact EqE_gd | refine gM_splitN ?_ ?_ | refine gM_split ?_ ?_ |  refine condM_splitDN ?_ ?_ | refine condM_splitD ?_ ?_ | refine condM_splitN ?_ ?_ | refine condM_split ?_ ?_ | refine condM_any ?_ ?_ | refine cw (c4) ?_ | intro _) | (simp [*, hz, hzI, repl]) | (refine cw_eq (c4) ?_ ?_; (· (simp [*]; done))))
        all_goals rfl
      | false =>
        rw [if_neg (by decide)] at hR
        injection hR with hR1 hR2
        subst hR1; subst hR2
        unfold cEntry
        repeat' (first | (with_reducible first | refine awp_seq ?_ | refine awp_blockS ?_ | refine awp_blockC ?_ | refine awp_blockR ?_ | refine awp_skip ?_ | refine awp_ret ?_ | refine awp_exit ?_ | refine awp_region ?_ | refine awp_regionD (id := 11) 10 mixed (by decide +kernel) ?_ | refine awp_regionD (id := 12) 45 mixed (by decide +kernel) ?_ | refine awp_regionD (id := 18) 7 mixed (by decide +kernel) ?_ | refine awp_condM ?_ | refine And.intro ?_ ?_ | apply gQ_merge | apply gE_merge | exact EqV_w | exact EqE_w | exact EqV_ptr | exact EqE_ptr | exact EqV_msl | exact EqE_msl | exact EqV_agg | exact EqE_agg | exact EqV_fn | exact EqE_fn | exact EqV_gd | exact EqE_gd | refine gM_splitN ?_ ?_ | refine gM_split ?_ ?_ |  refine condM_splitDN ?_ ?_ | refine condM_splitD ?_ ?_ | refine condM_splitN ?_ ?_ | refine condM_split ?_ ?_ | refine condM_any ?_ ?_ | refine cw (c4) ?_ | intro _) | (simp [*, hz, hzI]) | (refine cw_eq (c4) ?_ ?_; (· (simp [*]; done))))
set_option maxHeartbeats 4000000 in
theorem rFareEntry_bad (r : Rule) (t : Trip) (hn : t.note.size < 1000000) (h : ¬ fareChk 0 t = 0) : RealCall Tryz.prog 42 [.agg (cRule r), .agg (cTrip t)] (.tup [.agg [.int .i64 0, .str ⟨#[]⟩, .sl 0 []], .int .i64 (fareChk 0 t)]) true := by
  have c1 := rDateErr_c t.date
  have c2 := rNoteErr_c t.note hn
  have m1 := isMoney_c t.fare
  have m2 := isMoney_c t.tip
  have m3 := isMoney_c t.voucher
  have hb1 := fun h => moneyE_bad (l := [t.fare, t.tip, t.voucher]) (x := t.fare) (by simp) h
  have hb2 := fun h => moneyE_bad (l := [t.fare, t.tip, t.voucher]) (x := t.tip) (by simp) h
  have hb3 := fun h => moneyE_bad (l := [t.fare, t.tip, t.voucher]) (x := t.voucher) (by simp) h
  have hok : winB t.fare 0 1000000000 = true → winB t.tip 0 1000000000 = true → winB t.voucher 0 1000000000 = true → moneyE [t.fare, t.tip, t.voucher] = 0 := fun h1 h2 h3 => moneyE_ok (fun x hx => by
    simp only [List.mem_cons, List.not_mem_nil, or_false] at hx
    rcases hx with rfl | rfl | rfl <;> assumption)
  have hv : fareChk 0 t = firstS [0, dateE t.date, noteE t.note, moneyE [t.fare, t.tip, t.voucher], errUnless (decide (t.voucher ≤ t.fare)) 24] := rfl
  generalize moneyE [t.fare, t.tip, t.voucher] = M at *
  generalize fareChk 0 t = V at *
  obtain ⟨td, tn, tf, tt, tv⟩ := t
  unfold cTrip cRule
  dsimp only at *
  generalize dateE td = D at *
  generalize noteE tn = E at *
  by_cases h1 : D = 0
  · subst h1
    by_cases h2 : E = 0
    · subst h2
      cases w1 : winB tf 0 1000000000 with
      | false =>
        have := hb1 w1; subst this
        rw [w1] at m1
        have hV : V = 2 := hv
        subst hV
        clear hb1 hb2 hb3 hok w1 hv h
        refine realcall_intro Tryz.func42 (by kernel_rfl) rfl (Nat.le_of_ble_eq_true (by kernel_rfl)) ?_
        simp only [Tryz.results42, Tryz.ntmps42]
        repeat' (first | (with_reducible first | refine awp_seq ?_ | refine awp_blockS ?_ | refine awp_blockC ?_ | refine awp_blockR ?_ | refine awp_skip ?_ | refine awp_ret ?_ | refine awp_exit ?_ | refine awp_region ?_ | refine awp_regionD (id := 11) 10 mixed (by decide +kernel) ?_ | refine awp_regionD (id := 12) 45 mixed (by decide +kernel) ?_ | refine awp_regionD (id := 18) 7 mixed (by decide +kernel) ?_ | refine awp_condM ?_ | refine And.intro ?_ ?_ | apply gQ_merge | apply gE_merge | exact EqV_w | exact EqE_w | exact EqV_ptr | exact EqE_ptr | exact EqV_msl | exact EqE_msl | exact EqV_agg | exact EqE_agg | exact EqV_fn | exact EqE_fn | exact EqV_gd | exact EqE_gd | refine gM_splitN ?_ ?_ | refine gM_split ?_ ?_ |  refine condM_splitDN ?_ ?_ | refine condM_splitD ?_ ?_ | refine condM_splitN ?_ ?_ | refine condM_split ?_ ?_ | refine condM_any ?_ ?_ | refine cw (c1) ?_ | refine cw (c2) ?_ | refine cw (m1) ?_ | refine cw (m2) ?_ | refine cw (m3) ?_ | intro _) | (simp [*, repl]) | (refine cw_eq (c1) ?_ ?_; (· (simp [*]; done))) | (refine cw_eq (c2) ?_ ?_; (· (simp [*]; done))) | (refine cw_eq (m1) ?_ ?_; (· (simp [*]; done))) | (refine cw_eq (m2) ?_ ?_; (· (simp [*]; done))) | (refine cw_eq (m3) ?_ ?_; (· (simp [*]; done))))
        all_goals rfl
      | true =>
        rw [w1] at m1
        cases w2 : winB tt 0 1000000000 with
        | false =>
          have := hb2 w2; subst this
          rw [w2] at m2
          have hV : V = 2 := hv
          subst hV
          clear hb1 hb2 hb3 hok w1 w2 hv h
          refine realcall_intro Tryz.func42 (by kernel_rfl) rfl (Nat.le_of_ble_eq_true (by kernel_rfl)) ?_
          simp only [Tryz.results42, Tryz.ntmps42]
          repeat' (first | (with_reducible first | refine awp_seq ?_ | refine awp_blockS ?_ | refine awp_blockC ?_ | refine awp_blockR ?_ | refine awp_skip ?_ | refine awp_ret ?_ | refine awp_exit ?_ | refine awp_region ?_ | refine awp_regionD (id := 11) 10 mixed (by decide +kernel) ?_ | refine awp_regionD (id := 12) 45 mixed (by decide +kernel) ?_ | refine awp_regionD (id := 18) 7 mixed (by decide +kernel) ?_ | refine awp_condM ?_ | refine And.intro ?_ ?_ | apply gQ_merge | apply gE_merge | exact EqV_w | exact EqE_w | exact EqV_ptr | exact EqE_ptr | exact EqV_msl | exact EqE_msl | exact EqV_agg | exact EqE_agg | exact EqV_fn | exact EqE_fn | exact EqV_gd | exact EqE_gd | refine gM_splitN ?_ ?_ | refine gM_split ?_ ?_ |  refine condM_splitDN ?_ ?_ | refine condM_splitD ?_ ?_ | refine condM_splitN ?_ ?_ | refine condM_split ?_ ?_ | refine condM_any ?_ ?_ | refine cw (c1) ?_ | refine cw (c2) ?_ | refine cw (m1) ?_ | refine cw (m2) ?_ | refine cw (m3) ?_ | intro _) | (simp [*, repl]) | (refine cw_eq (c1) ?_ ?_; (· (simp [*]; done))) | (refine cw_eq (c2) ?_ ?_; (· (simp [*]; done))) | (refine cw_eq (m1) ?_ ?_; (· (simp [*]; done))) | (refine cw_eq (m2) ?_ ?_; (· (simp [*]; done))) | (refine cw_eq (m3) ?_ ?_; (· (simp [*]; done))))
          all_goals rfl
        | true =>
          rw [w2] at m2
          cases w3 : winB tv 0 1000000000 with
          | false =>
            have := hb3 w3; subst this
            rw [w3] at m3
            have hV : V = 2 := hv
            subst hV
            clear hb1 hb2 hb3 hok w1 w2 w3 hv h
            refine realcall_intro Tryz.func42 (by kernel_rfl) rfl (Nat.le_of_ble_eq_true (by kernel_rfl)) ?_
            simp only [Tryz.results42, Tryz.ntmps42]
            repeat' (first | (with_reducible first | refine awp_seq ?_ | refine awp_blockS ?_ | refine awp_blockC ?_ | refine awp_blockR ?_ | refine awp_skip ?_ | refine awp_ret ?_ | refine awp_exit ?_ | refine awp_region ?_ | refine awp_regionD (id := 11) 10 mixed (by decide +kernel) ?_ | refine awp_regionD (id := 12) 45 mixed (by decide +kernel) ?_ | refine awp_regionD (id := 18) 7 mixed (by decide +kernel) ?_ | refine awp_condM ?_ | refine And.intro ?_ ?_ | apply gQ_merge | apply gE_merge | exact EqV_w | exact EqE_w | exact EqV_ptr | exact EqE_ptr | exact EqV_msl | exact EqE_msl | exact EqV_agg | exact EqE_agg | exact EqV_fn | exact EqE_fn | exact EqV_gd | exact EqE_gd | refine gM_splitN ?_ ?_ | refine gM_split ?_ ?_ |  refine condM_splitDN ?_ ?_ | refine condM_splitD ?_ ?_ | refine condM_splitN ?_ ?_ | refine condM_split ?_ ?_ | refine condM_any ?_ ?_ | refine cw (c1) ?_ | refine cw (c2) ?_ | refine cw (m1) ?_ | refine cw (m2) ?_ | refine cw (m3) ?_ | intro _) | (simp [*, repl]) | (refine cw_eq (c1) ?_ ?_; (· (simp [*]; done))) | (refine cw_eq (c2) ?_ ?_; (· (simp [*]; done))) | (refine cw_eq (m1) ?_ ?_; (· (simp [*]; done))) | (refine cw_eq (m2) ?_ ?_; (· (simp [*]; done))) | (refine cw_eq (m3) ?_ ?_; (· (simp [*]; done))))
            all_goals rfl
          | true =>
            have := hok w1 w2 w3; subst this
            rw [w3] at m3
            by_cases hle : tf < tv
            · have hV : V = 24 := by rw [hv, decide_eq_false (by omega)]; rfl
              subst hV
              clear hb1 hb2 hb3 hok w1 w2 w3 hv h
              refine realcall_intro Tryz.func42 (by kernel_rfl) rfl (Nat.le_of_ble_eq_true (by kernel_rfl)) ?_
              simp only [Tryz.results42, Tryz.ntmps42]
              repeat' (first | (with_reducible first | refine awp_seq ?_ | refine awp_blockS ?_ | refine awp_blockC ?_ | refine awp_blockR ?_ | refine awp_skip ?_ | refine awp_ret ?_ | refine awp_exit ?_ | refine awp_region ?_ | refine awp_regionD (id := 11) 10 mixed (by decide +kernel) ?_ | refine awp_regionD (id := 12) 45 mixed (by decide +kernel) ?_ | refine awp_regionD (id := 18) 7 mixed (by decide +kernel) ?_ | refine awp_condM ?_ | refine And.intro ?_ ?_ | apply gQ_merge | apply gE_merge | exact EqV_w | exact EqE_w | exact EqV_ptr | exact EqE_ptr | exact EqV_msl | exact EqE_msl | exact EqV_agg | exact EqE_agg | exact EqV_fn | exact EqE_fn | exact EqV_gd | exact EqE_gd | refine gM_splitN ?_ ?_ | refine gM_split ?_ ?_ |  refine condM_splitDN ?_ ?_ | refine condM_splitD ?_ ?_ | refine condM_splitN ?_ ?_ | refine condM_split ?_ ?_ | refine condM_any ?_ ?_ | refine cw (c1) ?_ | refine cw (c2) ?_ | refine cw (m1) ?_ | refine cw (m2) ?_ | refine cw (m3) ?_ | intro _) | (simp [*, hle, repl]) | (refine cw_eq (c1) ?_ ?_; (· (simp [*]; done))) | (refine cw_eq (c2) ?_ ?_; (· (simp [*]; done))) | (refine cw_eq (m1) ?_ ?_; (· (simp [*]; done))) | (refine cw_eq (m2) ?_ ?_; (· (simp [*]; done))) | (refine cw_eq (m3) ?_ ?_; (· (simp [*]; done))))
              all_goals rfl
            · exact absurd (by rw [hv, decide_eq_true (by omega)]; rfl) h
    · have hV : V = E := by rw [hv]; simp [firstS, h2]
      subst hV
      clear hb1 hb2 hb3 hok hv h
      refine realcall_intro Tryz.func42 (by kernel_rfl) rfl (Nat.le_of_ble_eq_true (by kernel_rfl)) ?_
      simp only [Tryz.results42, Tryz.ntmps42]
      repeat' (first | (with_reducible first | refine awp_seq ?_ | refine awp_blockS ?_ | refine awp_blockC ?_ | refine awp_blockR ?_ | refine awp_skip ?_ | refine awp_ret ?_ | refine awp_exit ?_ | refine awp_region ?_ | refine awp_regionD (id := 11) 10 mixed (by decide +kernel) ?_ | refine awp_regionD (id := 12) 45 mixed (by decide +kernel) ?_ | refine awp_regionD (id := 18) 7 mixed (by decide +kernel) ?_ | refine awp_condM ?_ | refine And.intro ?_ ?_ | apply gQ_merge | apply gE_merge | exact EqV_w | exact EqE_w | exact EqV_ptr | exact EqE_ptr | exact EqV_msl | exact EqE_msl | exact EqV_agg | exact EqE_agg | exact EqV_fn | exact EqE_fn | exact EqV_gd | exact EqE_gd | refine gM_splitN ?_ ?_ | refine gM_split ?_ ?_ |  refine condM_splitDN ?_ ?_ | refine condM_splitD ?_ ?_ | refine condM_splitN ?_ ?_ | refine condM_split ?_ ?_ | refine condM_any ?_ ?_ | refine cw (c1) ?_ | refine cw (c2) ?_ | intro _) | (simp [*, h2, repl]) | (refine cw_eq (c1) ?_ ?_; (· (simp [*]; done))) | (refine cw_eq (c2) ?_ ?_; (· (simp [*]; done))))
      all_goals rfl
  · have hV : V = D := by rw [hv]; simp [firstS, h1]
    subst hV
    clear hb1 hb2 hb3 hok hv h
    refine realcall_intro Tryz.func42 (by kernel_rfl) rfl (Nat.le_of_ble_eq_true (by kernel_rfl)) ?_
    simp only [Tryz.results42, Tryz.ntmps42]
    repeat' (first | (with_reducible first | refine awp_seq ?_ | refine awp_blockS ?_ | refine awp_blockC ?_ | refine awp_blockR ?_ | refine awp_skip ?_ | refine awp_ret ?_ | refine awp_exit ?_ | refine awp_region ?_ | refine awp_regionD (id := 11) 10 mixed (by decide +kernel) ?_ | refine awp_regionD (id := 12) 45 mixed (by decide +kernel) ?_ | refine awp_regionD (id := 18) 7 mixed (by decide +kernel) ?_ | refine awp_condM ?_ | refine And.intro ?_ ?_ | apply gQ_merge | apply gE_merge | exact EqV_w | exact EqE_w | exact EqV_ptr | exact EqE_ptr | exact EqV_msl | exact EqE_msl | exact EqV_agg | exact EqE_agg | exact EqV_fn | exact EqE_fn | exact EqV_gd | exact EqE_gd | refine gM_splitN ?_ ?_ | refine gM_split ?_ ?_ |  refine condM_splitDN ?_ ?_ | refine condM_splitD ?_ ?_ | refine condM_splitN ?_ ?_ | refine condM_split ?_ ?_ | refine condM_any ?_ ?_ | refine cw (c1) ?_ | intro _) | (simp [*, h1, repl]) | (refine cw_eq (c1) ?_ ?_; (· (simp [*]; done))))
    all_goals rfl
theorem rFareEntry_c (r : Rule) (t : Trip) (hs : SharesOk r) (h0 : shareE (sharesOf r) = 0) (hn : t.note.size < 1000000) : RealCall Tryz.prog 42 [.agg (cRule r), .agg (cTrip t)] (.tup [.agg (cEntry (fareR r t).1), .int .i64 (fareR r t).2]) true := by
  by_cases h : fareChk 0 t = 0
  · exact rFareEntry_ok r t hs h0 hn h
  · have := rFareEntry_bad r t hn h
    unfold fareR
    rw [if_neg h]
    exact this
end Go.Proofs.YtdgbfbgnbgfmjaaGreatDoor
