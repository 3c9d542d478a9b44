/- Contracts of functions for this claim: lemmas alone. -/
import Derived.Test.YtpjhpmpbdfeajaaGreatDoorP327
set_option linter.unusedSimpArgs false
set_option linter.unusedVariables false
namespace Go.Proofs.YtpjhpmpbdfeajaaGreatDoor
open Go Go.Fi
set_option maxRecDepth 20000

/-! ### wide numbers multiplied -/
theorem repl_iA : ∀ n : Nat, repl n [AV.w false false (.int .i64 0)] = iA (List.replicate n 0)
  | 0 => rfl
  | n + 1 => by
    have ih := repl_iA n
    simp only [repl, List.replicate_succ] at *
    rw [List.flatten_cons, ih]; rfl
theorem rep_iA (n : Nat) : List.replicate n (AV.w false false (.int .i64 0)) = iA (List.replicate n 0) := by simp [iA, ints]
theorem sgZ_mul (x y : Int) : sgZ x * sgZ y = sgZ (x * y) := by
  unfold sgZ
  by_cases h1 : x = 0
  · subst h1; simp
  · by_cases h2 : y = 0
    · subst h2; simp
    · have h3 : ¬ x * y = 0 := Int.mul_ne_zero h1 h2
      rw [if_neg h1, if_neg h2, if_neg h3]
      by_cases g1 : x < 0
      · by_cases g2 : y < 0
        · have := Int.mul_pos_of_neg_of_neg g1 g2
          rw [if_pos g1, if_pos g2, if_neg (by omega)]; rfl
        · have := Int.mul_neg_of_neg_of_pos g1 (show 0 < y by omega)
          rw [if_pos g1, if_neg g2, if_pos this]; rfl
      · by_cases g2 : y < 0
        · have := Int.mul_neg_of_pos_of_neg (show 0 < x by omega) g2
          rw [if_neg g1, if_pos g2, if_pos this]; rfl
        · have := Int.mul_pos (show 0 < x by omega) (show 0 < y by omega)
          rw [if_neg g1, if_neg g2, if_neg (by omega)]; rfl
@[simp] theorem rowK_zero (o : List Int) (d : Int) (b : List Int) (i : Nat) : rowK o d b i 0 = (o, 0) := rfl
set_option maxHeartbeats 8000000 in
theorem wideMul_c (x y : Int) (hx : (digs x.natAbs).length < 9000) (hy : (digs y.natAbs).length < 9000) : RealCall Tryz.prog 12 [.agg (wideP x), .agg (wideP y)] (.agg (wideP (x * y))) false := by
  have oa := okD_digs x.natAbs
  have ob := okD_digs y.natAbs
  obtain ⟨e1, e2⟩ := mulK_end oa ob
  rw [valD_digs, valD_digs] at e2
  have hinv := mulK_inv oa ob
  have hlast := (hinv (digs x.natAbs).length (Nat.le_refl _)).1
  have c1 := wideOf_c (sgZ x * sgZ y) (mulK (digs x.natAbs) (digs y.natAbs) (digs x.natAbs).length) (by omega)
  rw [trimD_digs e1, e2] at c1
  have hnat : ((x.natAbs : Int) * (y.natAbs : Int)).toNat = (x * y).natAbs := by rw [Int.natAbs_mul]; rfl
  rw [hnat, sgZ_mul] at c1
  have hres : (if digs (x * y).natAbs = [] then 0 else sgZ (x * y)) = sgZ (x * y) := by
    by_cases h : x * y = 0
    · rw [h]; simp [sgZ]
    · rw [if_neg (fun e => h (by have := digs_eq_nil.1 e; omega))]
  rw [hres] at c1
  have hsg := sgZ_mul x y
  have bx := sgZ_bd x
  have b_y := sgZ_bd y
  have bxy := sgZ_bd (x * y)
  unfold wideP
  rw [hlast] at c1
  have kinv := keep hinv
  have krow := keep (fun (i k : Nat) (h1 : i < (digs x.natAbs).length) (h2 : k ≤ (digs y.natAbs).length) => rowK_inv (i := i) (hinv i (by omega)).2.1 ob (dg_bd oa i) k (by rw [(hinv i (by omega)).1]; omega))
  have kba := keep (fun k => dg_bd oa k)
  have kbb := keep (fun k => dg_bd ob k)
  have kc1 := keep c1
  have kob := keep (fun i (h : i ≤ (digs x.natAbs).length) => fun k => dg_bd (hinv i h).2.1 k)
  clear hinv c1 e1 e2 hnat hres oa ob
  generalize digs (x * y).natAbs = D3 at *
  generalize digs x.natAbs = a at *
  generalize digs y.natAbs = b at *
  generalize sgZ (x * y) = s3 at *
  generalize sgZ x = s1 at *
  generalize sgZ y = s2 at *
  obtain ⟨N, hNn⟩ : ∃ N : Nat, a.length + b.length + 1 = N := ⟨_, rfl⟩
  have hN : (a.length : Int) + (b.length : Int) + 1 = (N : Int) := by omega
  have hz : mulK a b 0 = List.replicate N 0 := by rw [← hNn]; rfl
  rw [hNn] at kc1 hlast
  have hz2 : iA (mulK a b 0) = iA (List.replicate N 0) := by rw [hz]
  refine realcall_intro Tryz.func12 (by kernel_rfl) rfl (Nat.le_of_ble_eq_true (by kernel_rfl)) ?_
  simp only [Tryz.results12, Tryz.ntmps12]
  repeat' (first | (with_reducible first | refine awp_seq ?_ | refine awp_blockS ?_ | refine awp_blockC ?_ | refine awp_blockR ?_ | refine awp_skip ?_ | refine awp_ret ?_ | refine awp_exit ?_ | refine awp_region ?_ | refine awp_regionD (id := 9) 21 mixed (by decide +kernel) ?_ | refine awp_regionD (id := 11) 17 mixed (by decide +kernel) ?_ | refine awp_condM ?_ | refine And.intro ?_ ?_ | apply gQ_merge | apply gE_merge | exact EqV_w | exact EqE_w | exact EqV_ptr | exact EqE_ptr | exact EqV_msl | exact EqE_msl | exact EqV_agg | exact EqE_agg | exact EqV_fn | exact EqE_fn | exact EqV_gd | exact EqE_gd | refine gM_splitN ?_ ?_ | refine gM_split ?_ ?_ |  refine condM_splitDN ?_ ?_ | refine condM_splitD ?_ ?_ | refine condM_splitN ?_ ?_ | refine condM_split ?_ ?_ | refine condM_any ?_ ?_ | intro _) | (simp [*, hN, repl_iA]))
  all_goals try first | exact inI64 (by omega) (by omega) | omega
  refine awp_for4 4 (fun (k : Nat) => k ≤ a.length) [2, 3, 4, 5] (fun (k : Nat) => [(6, .w false false (.int .i64 k))]) [0, 1, 2] (fun (k : Nat) => [(3, iA (mulK a b k))]) (fun (k : Nat) => a.length - k) (fun (_u : Unit) => True) [2, 3, 4] (fun (_u : Unit) => [(5, .w true false (.sl N (ints (mulK a b a.length))))]) [0, 1, 2] (fun (_u : Unit) => []) (0) (Nat.zero_le _) (le_gen [] (by simp [hz, rep_iA]) (by simp [hz, rep_iA])) (fun k hk => ?_) (fun _u hf => ?_)
  · by_cases hlt : k < a.length
    · have hltI : (k : Int) < (a.length : Int) := by omega
      have ea : nth a k = dg a k := by simp [dg, nth, List.getD_eq_getElem?_getD]
      have bd := (show ∀ k, 0 ≤ dg a k ∧ dg a k < 1000000000 from kba) k
      have hmk := (show ∀ i, i ≤ a.length → _ from kinv) k hk
      have ks := keep (show mulK a b (k + 1) = (rowK (mulK a b k) (dg a k) b k b.length).1.set (k + b.length) (dg (rowK (mulK a b k) (dg a k) b k b.length).1 (k + b.length) + (rowK (mulK a b k) (dg a k) b k b.length).2) from rfl)
      have hol := hmk.1
      have kr := keep (fun j (hj : j ≤ b.length) => (show ∀ (i k : Nat), i < a.length → k ≤ b.length → _ from krow) k j hlt hj)
      clear hmk kinv krow kba kc1 kob hz hz2
      generalize mulK a b k = o at *
      generalize dg a k = d at *
      repeat' (first | (with_reducible first | refine awp_seq ?_ | refine awp_blockS ?_ | refine awp_blockC ?_ | refine awp_blockR ?_ | refine awp_skip ?_ | refine awp_ret ?_ | refine awp_exit ?_ | refine awp_region ?_ | refine awp_regionD (id := 9) 21 mixed (by decide +kernel) ?_ | refine awp_regionD (id := 11) 17 mixed (by decide +kernel) ?_ | refine awp_condM ?_ | refine And.intro ?_ ?_ | apply gQ_merge | apply gE_merge | exact EqV_w | exact EqE_w | exact EqV_ptr | exact EqE_ptr | exact EqV_msl | exact EqE_msl | exact EqV_agg | exact EqE_agg | exact EqV_fn | exact EqE_fn | exact EqV_gd | exact EqE_gd | refine gM_splitN ?_ ?_ | refine gM_split ?_ ?_ |  refine condM_splitDN ?_ ?_ | refine condM_splitD ?_ ?_ | refine condM_splitN ?_ ?_ | refine condM_split ?_ ?_ | refine condM_any ?_ ?_ | intro _) | (simp [*, hlt, hltI]))
      all_goals try first | exact inI64 (by omega) (by omega) | omega
      refine awp_for4 4 (fun (j : Nat) => j ≤ b.length) [2, 3, 4, 5, 6] (fun (j : Nat) => [(8, .w false false (.int .i64 j)), (7, .w false false (.int .i64 (rowK o d b k j).2))]) [0, 1, 2] (fun (j : Nat) => [(3, iA (rowK o d b k j).1)]) (fun (j : Nat) => b.length - j) (fun (_u : Unit) => True) [2, 3, 4, 5, 6] (fun (_u : Unit) => [(7, .w false false (.int .i64 (rowK o d b k b.length).2))]) [0, 1, 2] (fun (_u : Unit) => [(3, iA (rowK o d b k b.length).1)]) (0) (Nat.zero_le _) (le_gen [] (by simp) (by simp)) (fun j hk => ?_) (fun _u hf => ?_)
      · have bdo := (show ∀ j, j ≤ b.length → _ from kr) j hk
        obtain ⟨w1, w2, w3, _, _⟩ := bdo
        have bq := dg_bd w2 (k + j)
        rw [hol, hNn] at w1
        by_cases hjl : j < b.length
        · have hjlI : (j : Int) < (b.length : Int) := by omega
          have eb : nth b j = dg b j := by simp [dg, nth, List.getD_eq_getElem?_getD]
          have by_ := (show ∀ k, 0 ≤ dg b k ∧ dg b k < 1000000000 from kbb) j
          have hs : rowK o d b k (j + 1) = ((rowK o d b k j).1.set (k + j) ((dg (rowK o d b k j).1 (k + j) + d * dg b j + (rowK o d b k j).2) % 1000000000), (dg (rowK o d b k j).1 (k + j) + d * dg b j + (rowK o d b k j).2) / 1000000000) := rfl
          have hm0 : 0 ≤ d * dg b j := Int.mul_nonneg bd.1 by_.1
          have hm1 : d * dg b j ≤ 999999999 * 999999999 := by
            have h6 : d * dg b j ≤ 999999999 * dg b j := Int.mul_le_mul_of_nonneg_right (by omega) by_.1
            have h7 : 999999999 * dg b j ≤ 999999999 * 999999999 := by omega
            omega
          clear kr kbb ks w2
          generalize (rowK o d b k j).1 = q at *
          generalize (rowK o d b k j).2 = c at *
          generalize dg b j = yb at *
          obtain ⟨u, hu⟩ : ∃ u : Nat, k + j = u := ⟨_, rfl⟩
          have huI : (k : Int) + (j : Int) = (u : Int) := by omega
          rw [hu] at hs bq
          have hul : u < q.length := by omega
          have huN : u < N := by omega
          have eq_ : nth q u = dg q u := by simp [dg, nth, List.getD_eq_getElem?_getD]
          generalize dg q u = z at *
          have g3 : (z + d * yb + c).tmod 1000000000 = (z + d * yb + c) % 1000000000 := Int.tmod_eq_emod_of_nonneg (by omega)
          have g4 : (z + d * yb + c).tdiv 1000000000 = (z + d * yb + c) / 1000000000 := Int.tdiv_eq_ediv_of_nonneg (by omega)
          have g5 : 0 ≤ (z + d * yb + c) % 1000000000 ∧ (z + d * yb + c) % 1000000000 < 1000000000 := by omega
          have g6 : 0 ≤ (z + d * yb + c) / 1000000000 ∧ (z + d * yb + c) / 1000000000 ≤ 1000000000000000000 := by omega
          generalize (z + d * yb + c) % 1000000000 = r at *
          generalize (z + d * yb + c) / 1000000000 = qq at *
          have kk := keep hs
          clear hs
          repeat' (first | (with_reducible first | refine awp_seq ?_ | refine awp_blockS ?_ | refine awp_blockC ?_ | refine awp_blockR ?_ | refine awp_skip ?_ | refine awp_ret ?_ | refine awp_exit ?_ | refine awp_region ?_ | refine awp_regionD (id := 9) 21 mixed (by decide +kernel) ?_ | refine awp_regionD (id := 11) 17 mixed (by decide +kernel) ?_ | refine awp_condM ?_ | refine And.intro ?_ ?_ | apply gQ_merge | apply gE_merge | exact EqV_w | exact EqE_w | exact EqV_ptr | exact EqE_ptr | exact EqV_msl | exact EqE_msl | exact EqV_agg | exact EqE_agg | exact EqV_fn | exact EqE_fn | exact EqV_gd | exact EqE_gd | refine gM_splitN ?_ ?_ | refine gM_split ?_ ?_ |  refine condM_splitDN ?_ ?_ | refine condM_splitD ?_ ?_ | refine condM_splitN ?_ ?_ | refine condM_split ?_ ?_ | refine condM_any ?_ ?_ | intro _) | (simp [*, hlt, hltI, hjl, hjlI, ea, eb, eq_, huI, hul, huN, g3, g4, w1]))
          all_goals try first | exact inI64 (by omega) (by omega) | omega
          all_goals (refine loopK_normal _ _ _ _ _ (j + 1) _ ?_ (by first | omega | (dsimp only; omega) | (simp; omega)) ?_; (· omega); (refine le_gen [] ?_ ?_ <;> first | trivial | (simp [*, (show rowK o d b k (j + 1) = _ from kk)]; done)))
        · have hke : j = b.length := by omega
          subst hke
          clear kr kbb ks
          repeat' (first | (with_reducible first | refine awp_seq ?_ | refine awp_blockS ?_ | refine awp_blockC ?_ | refine awp_blockR ?_ | refine awp_skip ?_ | refine awp_ret ?_ | refine awp_exit ?_ | refine awp_region ?_ | refine awp_regionD (id := 9) 21 mixed (by decide +kernel) ?_ | refine awp_regionD (id := 11) 17 mixed (by decide +kernel) ?_ | refine awp_condM ?_ | refine And.intro ?_ ?_ | apply gQ_merge | apply gE_merge | exact EqV_w | exact EqE_w | exact EqV_ptr | exact EqE_ptr | exact EqV_msl | exact EqE_msl | exact EqV_agg | exact EqE_agg | exact EqV_fn | exact EqE_fn | exact EqV_gd | exact EqE_gd | refine gM_splitN ?_ ?_ | refine gM_split ?_ ?_ |  refine condM_splitDN ?_ ?_ | refine condM_splitD ?_ ?_ | refine condM_splitN ?_ ?_ | refine condM_split ?_ ?_ | refine condM_any ?_ ?_ | intro _) | (simp [*]))
          all_goals (refine finW_intro () ?_ ?_; (· trivial); (refine le_gen [] ?_ ?_ <;> first | trivial | (simp [*]; done)))
      · obtain ⟨w1, w2, w3, _, _⟩ := (show ∀ j, j ≤ b.length → _ from kr) b.length (Nat.le_refl _)
        have bq := dg_bd w2 (k + b.length)
        rw [hol, hNn] at w1
        clear kr kbb w2
        generalize (rowK o d b k b.length).1 = q at *
        generalize (rowK o d b k b.length).2 = c at *
        obtain ⟨u, hu⟩ : ∃ u : Nat, k + b.length = u := ⟨_, rfl⟩
        have huI : (k : Int) + (b.length : Int) = (u : Int) := by omega
        rw [hu] at ks bq
        have hul : u < q.length := by omega
        have huN : u < N := by omega
        have eq_ : nth q u = dg q u := by simp [dg, nth, List.getD_eq_getElem?_getD]
        generalize dg q u = z at *
        repeat' (first | (with_reducible first | refine awp_seq ?_ | refine awp_blockS ?_ | refine awp_blockC ?_ | refine awp_blockR ?_ | refine awp_skip ?_ | refine awp_ret ?_ | refine awp_exit ?_ | refine awp_region ?_ | refine awp_regionD (id := 9) 21 mixed (by decide +kernel) ?_ | refine awp_regionD (id := 11) 17 mixed (by decide +kernel) ?_ | refine awp_condM ?_ | refine And.intro ?_ ?_ | apply gQ_merge | apply gE_merge | exact EqV_w | exact EqE_w | exact EqV_ptr | exact EqE_ptr | exact EqV_msl | exact EqE_msl | exact EqV_agg | exact EqE_agg | exact EqV_fn | exact EqE_fn | exact EqV_gd | exact EqE_gd | refine gM_splitN ?_ ?_ | refine gM_split ?_ ?_ |  refine condM_splitDN ?_ ?_ | refine condM_splitD ?_ ?_ | refine condM_splitN ?_ ?_ | refine condM_split ?_ ?_ | refine condM_any ?_ ?_ | intro _) | (simp [*, huI, hul, huN, eq_, w1]))
        all_goals try first | exact inI64 (by omega) (by omega) | omega
        all_goals (refine loopK_normal _ _ _ _ _ (k + 1) _ ?_ (by first | omega | (dsimp only; omega) | (simp; omega)) ?_; (· omega); (refine le_gen [] ?_ ?_ <;> first | trivial | (simp [*, (show mulK a b (k + 1) = _ from ks)]; done)))
    · have hke : k = a.length := by omega
      subst hke
      clear kinv krow kba kbb kc1 kob
      have ht2 : (ints (mulK a b a.length)).take N = ints (mulK a b a.length) := by rw [ints_take, List.take_of_length_le (by omega)]
      repeat' (first | (with_reducible first | refine awp_seq ?_ | refine awp_blockS ?_ | refine awp_blockC ?_ | refine awp_blockR ?_ | refine awp_skip ?_ | refine awp_ret ?_ | refine awp_exit ?_ | refine awp_region ?_ | refine awp_regionD (id := 9) 21 mixed (by decide +kernel) ?_ | refine awp_regionD (id := 11) 17 mixed (by decide +kernel) ?_ | refine awp_condM ?_ | refine And.intro ?_ ?_ | apply gQ_merge | apply gE_merge | exact EqV_w | exact EqE_w | exact EqV_ptr | exact EqE_ptr | exact EqV_msl | exact EqE_msl | exact EqV_agg | exact EqE_agg | exact EqV_fn | exact EqE_fn | exact EqV_gd | exact EqE_gd | refine gM_splitN ?_ ?_ | refine gM_split ?_ ?_ |  refine condM_splitDN ?_ ?_ | refine condM_splitD ?_ ?_ | refine condM_splitN ?_ ?_ | refine condM_split ?_ ?_ | refine condM_any ?_ ?_ | intro _) | (simp [*]))
      all_goals (refine finW_intro () ?_ ?_; (· trivial); (refine le_gen [3] ?_ ?_ <;> first | trivial | (simp [*, ht2, hlast]; done)))
  · have c1 := (show RealCall _ _ _ _ false from kc1)
    clear kinv krow kba kbb kc1 kob
    repeat' (first | (with_reducible first | refine awp_seq ?_ | refine awp_blockS ?_ | refine awp_blockC ?_ | refine awp_blockR ?_ | refine awp_skip ?_ | refine awp_ret ?_ | refine awp_exit ?_ | refine awp_region ?_ | refine awp_regionD (id := 9) 21 mixed (by decide +kernel) ?_ | refine awp_regionD (id := 11) 17 mixed (by decide +kernel) ?_ | refine awp_condM ?_ | refine And.intro ?_ ?_ | apply gQ_merge | apply gE_merge | exact EqV_w | exact EqE_w | exact EqV_ptr | exact EqE_ptr | exact EqV_msl | exact EqE_msl | exact EqV_agg | exact EqE_agg | exact EqV_fn | exact EqE_fn | exact EqV_gd | exact EqE_gd | refine gM_splitN ?_ ?_ | refine gM_split ?_ ?_ |  refine condM_splitDN ?_ ?_ | refine condM_splitD ?_ ?_ | refine condM_splitN ?_ ?_ | refine condM_split ?_ ?_ | refine condM_any ?_ ?_ | refine cw (c1) ?_ | intro _) | (simp [*, hsg]) | (refine cw_eq (c1) ?_ ?_; (· (simp [*]; done))))
    all_goals try first | exact inI64 (by omega) (by omega) | omega
end Go.Proofs.YtpjhpmpbdfeajaaGreatDoor

