/- Contracts of functions for this claim: lemmas alone. -/
import Derived.Test.YtdgbfbgnbgfmjaaGreatDoorP88
import Derived.Test.YtdgbfbgnbgfmjaaGreatDoorP63
set_option linter.unusedSimpArgs false
set_option linter.unusedVariables false
namespace Go.Proofs.YtdgbfbgnbgfmjaaGreatDoor
open Go Go.Fi
set_option maxRecDepth 20000
attribute [-simp] cEntries_drop2

/-! ### the reference's closing entry -/
theorem isFlow_c (a : Acc) : RealCall Tryz.prog 134 [.agg (cAcc a)] (.bool (resB a)) true := by
  unfold cAcc resB
  refine realcall_intro Tryz.func134 (by kernel_rfl) rfl (Nat.le_of_ble_eq_true (by kernel_rfl)) ?_
  simp only [Tryz.results134, Tryz.ntmps134]
  repeat' (first | (with_reducible first | refine awp_seq ?_ | refine awp_blockS ?_ | refine awp_blockC ?_ | refine awp_blockR ?_ | refine awp_skip ?_ | refine awp_ret ?_ | refine awp_exit ?_ | refine awp_region ?_ | refine awp_condM ?_ | refine And.intro ?_ ?_ | refine gE_splitN ?_ ?_ | refine gE_split ?_ ?_ | refine gQ_splitN ?_ ?_ | refine gQ_split ?_ ?_ | refine gM_splitN ?_ ?_ | refine gM_split ?_ ?_ | refine condM_splitDN ?_ ?_ | refine condM_splitD ?_ ?_ | refine condM_splitN ?_ ?_ | refine condM_split ?_ ?_ | refine condM_any ?_ ?_ | intro _) | (simp [*]))
set_option maxHeartbeats 4000000 in
theorem rClosing_ok (b : Book) (hb : BookIn b) (m : Int) (n : ByteArray) (h0 : (bookS b).2 = 0) (hm : winB m 0 3332 = true) (hh : hasS b.accs n = true) (hr : resB (nth b.accs (findS b.accs n).toNat) = false) (hL : (clAll b m n).length < 100000)
    (R : PV) (hR0 : (clAll b m n).length = 0 → R = noA 12) (hR8 : ¬ (clAll b m n).length = 0 → muchL (clAll b m n) = true → R = noA 8)
    (hR1 : ¬ (clAll b m n).length = 0 → muchL (clAll b m n) = false → R = yesA (clD m) ⟨#[99, 108, 111, 115, 105, 110, 103]⟩ (clAll b m n)) :
    RealCall Tryz.prog 75 [.agg (cBook b), .int .i64 m, .str n] R true := by
  have ht := (bookS_zero h0).tight
  have c1 := rWithin_c m 0 3332
  rw [hm] at c1
  have hm := winB_iff.1 hm
  have hlen := hb.accs.len
  have c5 := rFind_c b.accs (by omega) n
  have hfd : ∃ i : Nat, findS b.accs n = (i : Int) ∧ i < b.accs.length := by
    have h1 := of_decide_eq_true ((find_has b.accs n).trans hh)
    have h2 := (find_bd b.accs n).2
    exact ⟨(findS b.accs n).toNat, by omega, by omega⟩
  obtain ⟨i, hi, hil⟩ := hfd
  rw [hi] at c5 hr
  rw [Int.toNat_natCast] at hr
  have c6 := isFlow_c (nth b.accs i)
  rw [hr] at c6
  have hfa : ∀ x, RealCall Tryz.prog 51 [.agg (cBook b), .str x, .int .i64 (clD m)] (.int .i64 (clF b m x)) true := fun x => rBalance_c b x (clD m) ht.ents
  have hfs : ∀ x, -1200000000000 ≤ clF b m x ∧ clF b m x ≤ 1200000000000 := fun x => ht.small x (clD m)
  have cB := tooMuch_c ⟨clD m, ⟨#[99, 108, 111, 115, 105, 110, 103]⟩, clAll b m n⟩ hL
  change RealCall _ _ _ (.bool (muchL (clAll b m n))) true at cB
  clear ht hb hr hi hh h0
  have k0 := keep hR0
  have k8 := keep hR8
  have k1 := keep hR1
  clear hR0 hR8 hR1
  have kfa := keep hfa
  have kfs := keep hfs
  have kcl := keep cB
  clear hfa hfs cB hL
  unfold clAll at *
  generalize clF b m = f at *
  generalize hD : clD m = D at *
  unfold clD at hD
  have hD2 : m * 30 + 30 - 1 = D := by omega
  clear hD
  obtain ⟨ba, be, bc⟩ := b
  unfold cBook cAcc at *
  dsimp only at *
  obtain ⟨m0, m1⟩ := hm
  refine realcall_intro Tryz.func75 (by kernel_rfl) rfl (Nat.le_of_ble_eq_true (by kernel_rfl)) ?_
  simp only [Tryz.results75, Tryz.ntmps75]
  repeat' (first | (with_reducible first | refine awp_seq ?_ | refine awp_blockS ?_ | refine awp_blockC ?_ | refine awp_blockR ?_ | refine awp_skip ?_ | refine awp_ret ?_ | refine awp_exit ?_ | refine awp_region ?_ | refine awp_regionD (id := 13) 11 mixed (by decide +kernel) ?_ | refine awp_regionD (id := 15) 12 mixed (by decide +kernel) ?_ | refine awp_condM ?_ | refine And.intro ?_ ?_ | apply gQ_merge | apply gE_merge | exact EqV_w | exact EqE_w | exact EqV_ptr | exact EqE_ptr | exact EqV_msl | exact EqE_msl | exact EqV_agg | exact EqE_agg | exact EqV_fn | exact EqE_fn | exact EqV_gd | exact EqE_gd | refine gM_splitN ?_ ?_ | refine gM_split ?_ ?_ |  refine condM_splitDN ?_ ?_ | refine condM_splitD ?_ ?_ | refine condM_splitN ?_ ?_ | refine condM_split ?_ ?_ | refine condM_any ?_ ?_ | refine cw (c1) ?_ | refine cw (c5) ?_ | refine cw (c6) ?_ | intro _) | (simp [*, hil, cAcc, hD2]) | (refine cw_eq (c1) ?_ ?_; (· (simp [*]; done))) | (refine cw_eq (c5) ?_ ?_; (· (simp [*]; done))) | (refine cw_eq (c6) ?_ ?_; (· (simp [*]; done))))
  all_goals try exact inI64 (by omega) (by omega)
  all_goals try omega
  refine awp_for4 4 (fun (k : Nat) => k ≤ ba.length) [2, 3, 6, 9] (fun (k : Nat) => [(11, .w false false (.int .i64 k)), (10, .w false false (.int .i64 (nK f ba k)))]) [0, 1] (fun (k : Nat) => [(2, [.w false false (.int .i64 D), .w false false (.str ⟨#[99, 108, 111, 115, 105, 110, 103]⟩), .msl 3 ((clK f ba k).length * 2) 2 0 (clK f ba k).length]), (3, lA (clK f ba k))]) (fun (k : Nat) => ba.length - k) (fun (_u : Unit) => True) [2, 6, 9] (fun (_u : Unit) => [(10, .w false false (.int .i64 (nK f ba ba.length)))]) [0, 1] (fun (_u : Unit) => [(2, [.w false false (.int .i64 D), .w false false (.str ⟨#[99, 108, 111, 115, 105, 110, 103]⟩), .msl 3 ((clK f ba ba.length).length * 2) 2 0 (clK f ba ba.length).length]), (3, lA (clK f ba ba.length))]) (0) (Nat.zero_le _) (le_gen [] (by simp) (by simp)) (fun k hk => ?_) (fun _u hf => ?_)
  · clear c1 c5 c6
    by_cases hlt : k < ba.length
    · have c1 := (show ∀ x, RealCall Tryz.prog 51 [.agg [.sl ba.length (cAccs ba), .sl be.length (cEntries be), .int .i64 bc], .str x, .int .i64 D] (.int .i64 (f x)) true from kfa) (nth ba k).name
      have c7 := isFlow_c (nth ba k)
      unfold cAcc at c7
      have hf := (show ∀ x, -1200000000000 ≤ f x ∧ f x ≤ 1200000000000 from kfs) (nth ba k).name
      have hN := nK_abs f kfs ba k
      have hL := clK_len f ba k
      clear kfa kfs kcl k0 k8 k1
      cases hr : resB (nth ba k) with
      | false =>
        rw [hr] at c7
        have hs1 : clK f ba (k + 1) = clK f ba k := clK_no _ _ _ (.inl hr)
        have hs2 : nK f ba (k + 1) = nK f ba k := nK_no _ _ _ (.inl hr)
        have ks1 := keep hs1
        have ks2 := keep hs2
        clear hs1 hs2
        generalize clK f ba k = L at *
        generalize nK f ba k = N at *
        repeat' (first | (with_reducible first | refine awp_seq ?_ | refine awp_blockS ?_ | refine awp_blockC ?_ | refine awp_blockR ?_ | refine awp_skip ?_ | refine awp_ret ?_ | refine awp_exit ?_ | refine awp_region ?_ | refine awp_regionD (id := 13) 11 mixed (by decide +kernel) ?_ | refine awp_regionD (id := 15) 12 mixed (by decide +kernel) ?_ | refine awp_condM ?_ | refine And.intro ?_ ?_ | apply gQ_merge | apply gE_merge | exact EqV_w | exact EqE_w | exact EqV_ptr | exact EqE_ptr | exact EqV_msl | exact EqE_msl | exact EqV_agg | exact EqE_agg | exact EqV_fn | exact EqE_fn | exact EqV_gd | exact EqE_gd | refine gM_splitN ?_ ?_ | refine gM_split ?_ ?_ |  refine condM_splitDN ?_ ?_ | refine condM_splitD ?_ ?_ | refine condM_splitN ?_ ?_ | refine condM_split ?_ ?_ | refine condM_any ?_ ?_ | refine cw (c1) ?_ | refine cw (c7) ?_ | intro _) | (simp [*, hlt, cAcc]) | (refine cw_eq (c1) ?_ ?_; (· (simp [*]; done))) | (refine cw_eq (c7) ?_ ?_; (· (simp [*]; done))))
        all_goals first
          | exact inI64 (by omega) (by omega)
          | omega
          | (refine loopK_normal _ _ _ _ _ (k + 1) _ ?_ (by first | omega | (dsimp only; omega) | (simp; omega)) ?_; (· omega); (refine le_gen [] ?_ ?_ <;> first | trivial | (simp [*, (show clK f ba (k + 1) = _ from ks1), (show nK f ba (k + 1) = _ from ks2)]; done)))
          | skip
      | true =>
        rw [hr] at c7
        by_cases h0 : f (nth ba k).name = 0
        · have hs1 : clK f ba (k + 1) = clK f ba k := clK_no _ _ _ (.inr h0)
          have hs2 : nK f ba (k + 1) = nK f ba k := nK_no _ _ _ (.inr h0)
          have ks1 := keep hs1
          have ks2 := keep hs2
          clear hs1 hs2
          generalize clK f ba k = L at *
          generalize nK f ba k = N at *
          repeat' (first | (with_reducible first | refine awp_seq ?_ | refine awp_blockS ?_ | refine awp_blockC ?_ | refine awp_blockR ?_ | refine awp_skip ?_ | refine awp_ret ?_ | refine awp_exit ?_ | refine awp_region ?_ | refine awp_regionD (id := 13) 11 mixed (by decide +kernel) ?_ | refine awp_regionD (id := 15) 12 mixed (by decide +kernel) ?_ | refine awp_condM ?_ | refine And.intro ?_ ?_ | apply gQ_merge | apply gE_merge | exact EqV_w | exact EqE_w | exact EqV_ptr | exact EqE_ptr | exact EqV_msl | exact EqE_msl | exact EqV_agg | exact EqE_agg | exact EqV_fn | exact EqE_fn | exact EqV_gd | exact EqE_gd | refine gM_splitN ?_ ?_ | refine gM_split ?_ ?_ |  refine condM_splitDN ?_ ?_ | refine condM_splitD ?_ ?_ | refine condM_splitN ?_ ?_ | refine condM_split ?_ ?_ | refine condM_any ?_ ?_ | refine cw (c1) ?_ | refine cw (c7) ?_ | intro _) | (simp [*, hlt, cAcc, h0]) | (refine cw_eq (c1) ?_ ?_; (· (simp [*]; done))) | (refine cw_eq (c7) ?_ ?_; (· (simp [*]; done))))
          all_goals first
            | exact inI64 (by omega) (by omega)
            | omega
            | (refine loopK_normal _ _ _ _ _ (k + 1) _ ?_ (by first | omega | (dsimp only; omega) | (simp; omega)) ?_; (· omega); (refine le_gen [] ?_ ?_ <;> first | trivial | (simp [*, (show clK f ba (k + 1) = _ from ks1), (show nK f ba (k + 1) = _ from ks2)]; done)))
            | skip
        · have hs1 : clK f ba (k + 1) = clK f ba k ++ [⟨(nth ba k).name, -(f (nth ba k).name)⟩] := clK_yes _ _ _ hr h0
          have hs2 : nK f ba (k + 1) = nK f ba k + f (nth ba k).name := nK_yes _ _ _ hr h0
          have ks1 := keep hs1
          have ks2 := keep hs2
          clear hs1 hs2
          generalize clK f ba k = L at *
          generalize nK f ba k = N at *
          generalize f (nth ba k).name = y at *
          repeat' (first | (with_reducible first | refine awp_seq ?_ | refine awp_blockS ?_ | refine awp_blockC ?_ | refine awp_blockR ?_ | refine awp_skip ?_ | refine awp_ret ?_ | refine awp_exit ?_ | refine awp_region ?_ | refine awp_regionD (id := 13) 11 mixed (by decide +kernel) ?_ | refine awp_regionD (id := 15) 12 mixed (by decide +kernel) ?_ | refine awp_condM ?_ | refine And.intro ?_ ?_ | apply gQ_merge | apply gE_merge | exact EqV_w | exact EqE_w | exact EqV_ptr | exact EqE_ptr | exact EqV_msl | exact EqE_msl | exact EqV_agg | exact EqE_agg | exact EqV_fn | exact EqE_fn | exact EqV_gd | exact EqE_gd | refine gM_splitN ?_ ?_ | refine gM_split ?_ ?_ |  refine condM_splitDN ?_ ?_ | refine condM_splitD ?_ ?_ | refine condM_splitN ?_ ?_ | refine condM_split ?_ ?_ | refine condM_any ?_ ?_ | refine cw (c1) ?_ | refine cw (c7) ?_ | intro _) | (simp [*, hlt, cAcc, h0]) | (refine cw_eq (c1) ?_ ?_; (· (simp [*]; done))) | (refine cw_eq (c7) ?_ ?_; (· (simp [*]; done))))
          all_goals first
            | exact inI64 (by omega) (by omega)
            | omega
            | (refine loopK_normal _ _ _ _ _ (k + 1) _ ?_ (by first | omega | (dsimp only; omega) | (simp; omega)) ?_; (· omega); (refine le_gen [] ?_ ?_ <;> first | trivial | (simp [*, (show clK f ba (k + 1) = _ from ks1), (show nK f ba (k + 1) = _ from ks2), Nat.add_mul]; done)))
            | skip
    · have hke : k = ba.length := by omega
      subst hke
      clear kfa kfs kcl k0 k8 k1
      repeat' (first | (with_reducible first | refine awp_seq ?_ | refine awp_blockS ?_ | refine awp_blockC ?_ | refine awp_blockR ?_ | refine awp_skip ?_ | refine awp_ret ?_ | refine awp_exit ?_ | refine awp_region ?_ | refine awp_regionD (id := 13) 11 mixed (by decide +kernel) ?_ | refine awp_regionD (id := 15) 12 mixed (by decide +kernel) ?_ | refine awp_condM ?_ | refine And.intro ?_ ?_ | apply gQ_merge | apply gE_merge | exact EqV_w | exact EqE_w | exact EqV_ptr | exact EqE_ptr | exact EqV_msl | exact EqE_msl | exact EqV_agg | exact EqE_agg | exact EqV_fn | exact EqE_fn | exact EqV_gd | exact EqE_gd | refine gM_splitN ?_ ?_ | refine gM_split ?_ ?_ |  refine condM_splitDN ?_ ?_ | refine condM_splitD ?_ ?_ | refine condM_splitN ?_ ?_ | refine condM_split ?_ ?_ | refine condM_any ?_ ?_ | intro _) | (simp [*]))
      all_goals (refine finW_intro () ?_ ?_; (· trivial); (refine le_gen [] ?_ ?_ <;> first | trivial | (simp [*]; done)))
  · clear c1 c5 c6 hf kfa
    have hN := nK_abs f kfs ba ba.length
    have hL := clK_len f ba ba.length
    clear kfs
    generalize clK f ba ba.length = L at *
    generalize nK f ba ba.length = N at *
    by_cases h0 : N = 0
    · rw [if_pos h0] at kcl k0 k8 k1
      have cl := (show RealCall _ _ _ _ true from kcl)
      clear kcl
      unfold cEntry at cl
      dsimp only at cl
      by_cases he : L.length = 0
      · have hR := (show L.length = 0 → R = noA 12 from k0) he
        have heI : (L.length : Int) = 0 := by omega
        unfold noA at hR
        subst hR
        clear k0 k8 k1 cl
        repeat' (first | (with_reducible first | refine awp_seq ?_ | refine awp_blockS ?_ | refine awp_blockC ?_ | refine awp_blockR ?_ | refine awp_skip ?_ | refine awp_ret ?_ | refine awp_exit ?_ | refine awp_region ?_ | refine awp_regionD (id := 13) 11 mixed (by decide +kernel) ?_ | refine awp_regionD (id := 15) 12 mixed (by decide +kernel) ?_ | refine awp_condM ?_ | refine And.intro ?_ ?_ | apply gQ_merge | apply gE_merge | exact EqV_w | exact EqE_w | exact EqV_ptr | exact EqE_ptr | exact EqV_msl | exact EqE_msl | exact EqV_agg | exact EqE_agg | exact EqV_fn | exact EqE_fn | exact EqV_gd | exact EqE_gd | refine gM_splitN ?_ ?_ | refine gM_split ?_ ?_ |  refine condM_splitDN ?_ ?_ | refine condM_splitD ?_ ?_ | refine condM_splitN ?_ ?_ | refine condM_split ?_ ?_ | refine condM_any ?_ ?_ | intro _) | (simp [*, h0, he, heI, repl]))
        all_goals rfl
      · have heI : ¬ (L.length : Int) = 0 := by omega
        clear k0
        cases hB : muchL L with
        | true =>
          rw [hB] at cl
          have hR := (show ¬ L.length = 0 → muchL L = true → R = noA 8 from k8) he hB
          unfold noA at hR
          subst hR
          clear hB k8 k1
          repeat' (first | (with_reducible first | refine awp_seq ?_ | refine awp_blockS ?_ | refine awp_blockC ?_ | refine awp_blockR ?_ | refine awp_skip ?_ | refine awp_ret ?_ | refine awp_exit ?_ | refine awp_region ?_ | refine awp_regionD (id := 13) 11 mixed (by decide +kernel) ?_ | refine awp_regionD (id := 15) 12 mixed (by decide +kernel) ?_ | refine awp_condM ?_ | refine And.intro ?_ ?_ | apply gQ_merge | apply gE_merge | exact EqV_w | exact EqE_w | exact EqV_ptr | exact EqE_ptr | exact EqV_msl | exact EqE_msl | exact EqV_agg | exact EqE_agg | exact EqV_fn | exact EqE_fn | exact EqV_gd | exact EqE_gd | refine gM_splitN ?_ ?_ | refine gM_split ?_ ?_ |  refine condM_splitDN ?_ ?_ | refine condM_splitD ?_ ?_ | refine condM_splitN ?_ ?_ | refine condM_split ?_ ?_ | refine condM_any ?_ ?_ | refine cw (cl) ?_ | intro _) | (simp [*, h0, he, heI, repl]) | (refine cw_eq (cl) ?_ ?_; (· (simp [*]; done))))
          all_goals rfl
        | false =>
          rw [hB] at cl
          have hR := (show ¬ L.length = 0 → muchL L = false → R = yesA D ⟨#[99, 108, 111, 115, 105, 110, 103]⟩ L from k1) he hB
          unfold yesA at hR
          subst hR
          clear hB k8 k1
          repeat' (first | (with_reducible first | refine awp_seq ?_ | refine awp_blockS ?_ | refine awp_blockC ?_ | refine awp_blockR ?_ | refine awp_skip ?_ | refine awp_ret ?_ | refine awp_exit ?_ | refine awp_region ?_ | refine awp_regionD (id := 13) 11 mixed (by decide +kernel) ?_ | refine awp_regionD (id := 15) 12 mixed (by decide +kernel) ?_ | refine awp_condM ?_ | refine And.intro ?_ ?_ | apply gQ_merge | apply gE_merge | exact EqV_w | exact EqE_w | exact EqV_ptr | exact EqE_ptr | exact EqV_msl | exact EqE_msl | exact EqV_agg | exact EqE_agg | exact EqV_fn | exact EqE_fn | exact EqV_gd | exact EqE_gd | refine gM_splitN ?_ ?_ | refine gM_split ?_ ?_ |  refine condM_splitDN ?_ ?_ | refine condM_splitD ?_ ?_ | refine condM_splitN ?_ ?_ | refine condM_split ?_ ?_ | refine condM_any ?_ ?_ | refine cw (cl) ?_ | intro _) | (simp [*, h0, he, heI, repl]) | (refine cw_eq (cl) ?_ ?_; (· (simp [*]; done))))
    · rw [if_neg h0] at kcl k0 k8 k1
      have cl := (show RealCall _ _ _ _ true from kcl)
      clear kcl k0
      unfold cEntry at cl
      dsimp only at cl
      have ela : lA L ++ [.w false false (.str n), .w false false (.int .i64 N)] = lA (L ++ [⟨n, N⟩]) := lA_snoc _ _ _
      have elen : (L ++ [(⟨n, N⟩ : Line)]).length = L.length + 1 := by simp
      generalize hls : L ++ [(⟨n, N⟩ : Line)] = l2 at *
      have hne : ¬ (L.length : Int) + 1 = 0 := by omega
      have hne2 : ¬ L.length + 1 = 0 := by omega
      clear hls
      rw [elen] at cl
      cases hB : muchL l2 with
      | true =>
        rw [hB] at cl
        have hR := (show ¬ l2.length = 0 → muchL l2 = true → R = noA 8 from k8) (by rw [elen]; exact hne2) hB
        unfold noA at hR
        subst hR
        clear hB k8 k1
        repeat' (first | (with_reducible first | refine awp_seq ?_ | refine awp_blockS ?_ | refine awp_blockC ?_ | refine awp_blockR ?_ | refine awp_skip ?_ | refine awp_ret ?_ | refine awp_exit ?_ | refine awp_region ?_ | refine awp_regionD (id := 13) 11 mixed (by decide +kernel) ?_ | refine awp_regionD (id := 15) 12 mixed (by decide +kernel) ?_ | refine awp_condM ?_ | refine And.intro ?_ ?_ | apply gQ_merge | apply gE_merge | exact EqV_w | exact EqE_w | exact EqV_ptr | exact EqE_ptr | exact EqV_msl | exact EqE_msl | exact EqV_agg | exact EqE_agg | exact EqV_fn | exact EqE_fn | exact EqV_gd | exact EqE_gd | refine gM_splitN ?_ ?_ | refine gM_split ?_ ?_ |  refine condM_splitDN ?_ ?_ | refine condM_splitD ?_ ?_ | refine condM_splitN ?_ ?_ | refine condM_split ?_ ?_ | refine condM_any ?_ ?_ | refine cw (cl) ?_ | intro _) | (simp [*, h0, hne, hne2, ela, Nat.add_mul, elen, repl]) | (refine cw_eq (cl) ?_ ?_; (· (simp [*]; done))))
        all_goals first
          | omega
          | rfl
      | false =>
        rw [hB] at cl
        have hR := (show ¬ l2.length = 0 → muchL l2 = false → R = yesA D ⟨#[99, 108, 111, 115, 105, 110, 103]⟩ l2 from k1) (by rw [elen]; exact hne2) hB
        unfold yesA at hR
        rw [elen] at hR
        subst hR
        clear hB k8 k1
        repeat' (first | (with_reducible first | refine awp_seq ?_ | refine awp_blockS ?_ | refine awp_blockC ?_ | refine awp_blockR ?_ | refine awp_skip ?_ | refine awp_ret ?_ | refine awp_exit ?_ | refine awp_region ?_ | refine awp_regionD (id := 13) 11 mixed (by decide +kernel) ?_ | refine awp_regionD (id := 15) 12 mixed (by decide +kernel) ?_ | refine awp_condM ?_ | refine And.intro ?_ ?_ | apply gQ_merge | apply gE_merge | exact EqV_w | exact EqE_w | exact EqV_ptr | exact EqE_ptr | exact EqV_msl | exact EqE_msl | exact EqV_agg | exact EqE_agg | exact EqV_fn | exact EqE_fn | exact EqV_gd | exact EqE_gd | refine gM_splitN ?_ ?_ | refine gM_split ?_ ?_ |  refine condM_splitDN ?_ ?_ | refine condM_splitD ?_ ?_ | refine condM_splitN ?_ ?_ | refine condM_split ?_ ?_ | refine condM_any ?_ ?_ | refine cw (cl) ?_ | intro _) | (simp [*, h0, hne, hne2, ela, Nat.add_mul, elen, repl]) | (refine cw_eq (cl) ?_ ?_; (· (simp [*]; done))))
        all_goals omega
theorem rClosing_c (b : Book) (hb : BookIn b) (m : Int) (n : ByteArray) (h0 : (bookS b).2 = 0) : RealCall Tryz.prog 75 [.agg (cBook b), .int .i64 m, .str n] (.tup [.agg (cEntry (closeS b m n).1), .int .i64 (closeS b m n).2]) true := by
  have hlen := hb.accs.len
  by_cases hm : winB m 0 3332 = true
  · by_cases hh : hasS b.accs n = true
    · have h : clE b m n = 0 := by unfold clE; rw [h0, hm, hh]; rfl
      unfold closeS
      rw [if_pos h]
      cases hr : resB (nth b.accs (findS b.accs n).toNat) with
      | false =>
        rw [if_neg (by decide)]
        have hL : (clAll b m n).length < 100000 := by
          have h1 := clK_len (clF b m) b.accs b.accs.length
          unfold clAll
          split
          · omega
          · simp; omega
        refine rClosing_ok b hb m n h0 hm hh hr hL _ (fun he => ?_) (fun he hm => ?_) (fun he hm => ?_)
        · rw [if_pos he]; rfl
        · rw [if_neg he, show largestS ⟨clD m, bs [99, 108, 111, 115, 105, 110, 103], clAll b m n⟩ = (noEntry, 8) from if_pos hm]; rfl
        · rw [if_neg he, show largestS ⟨clD m, bs [99, 108, 111, 115, 105, 110, 103], clAll b m n⟩ = (⟨clD m, bs [99, 108, 111, 115, 105, 110, 103], clAll b m n⟩, 0) from if_neg (fun e => by rw [show muchL (clAll b m n) = true from e] at hm; cases hm)]; rfl
      | true =>
        rw [if_pos rfl]
        have c1 := rWithin_c m 0 3332
        rw [hm] at c1
        have c5 := rFind_c b.accs (by omega) n
        have hfd : ∃ i : Nat, findS b.accs n = (i : Int) ∧ i < b.accs.length := by
          have h1 := of_decide_eq_true ((find_has b.accs n).trans hh)
          have h2 := (find_bd b.accs n).2
          exact ⟨(findS b.accs n).toNat, by omega, by omega⟩
        obtain ⟨i, hi, hil⟩ := hfd
        rw [hi] at c5 hr
        rw [Int.toNat_natCast] at hr
        have c6 := isFlow_c (nth b.accs i)
        rw [hr] at c6
        clear h0 hb hr hi hh h hm
        obtain ⟨ba, be, bc⟩ := b
        unfold cBook cAcc noEntry cEntry at *
        dsimp only at *
        refine realcall_intro Tryz.func75 (by kernel_rfl) rfl (Nat.le_of_ble_eq_true (by kernel_rfl)) ?_
        simp only [Tryz.results75, Tryz.ntmps75]
        repeat' (first | (with_reducible first | refine awp_seq ?_ | refine awp_blockS ?_ | refine awp_blockC ?_ | refine awp_blockR ?_ | refine awp_skip ?_ | refine awp_ret ?_ | refine awp_exit ?_ | refine awp_region ?_ | refine awp_regionD (id := 13) 11 mixed (by decide +kernel) ?_ | refine awp_regionD (id := 15) 12 mixed (by decide +kernel) ?_ | refine awp_condM ?_ | refine And.intro ?_ ?_ | apply gQ_merge | apply gE_merge | exact EqV_w | exact EqE_w | exact EqV_ptr | exact EqE_ptr | exact EqV_msl | exact EqE_msl | exact EqV_agg | exact EqE_agg | exact EqV_fn | exact EqE_fn | exact EqV_gd | exact EqE_gd | refine gM_splitN ?_ ?_ | refine gM_split ?_ ?_ |  refine condM_splitDN ?_ ?_ | refine condM_splitD ?_ ?_ | refine condM_splitN ?_ ?_ | refine condM_split ?_ ?_ | refine condM_any ?_ ?_ | refine cw (c1) ?_ | refine cw (c5) ?_ | refine cw (c6) ?_ | intro _) | (simp [*, hil, cAcc]) | (refine cw_eq (c1) ?_ ?_; (· (simp [*]; done))) | (refine cw_eq (c5) ?_ ?_; (· (simp [*]; done))) | (refine cw_eq (c6) ?_ ?_; (· (simp [*]; done))))
        all_goals first
          | omega
          | rfl
          | skip
    · have hh' : hasS b.accs n = false := by simpa using hh
      have h : clE b m n = 6 := by unfold clE; rw [h0, hm, hh']; rfl
      unfold closeS
      rw [h, if_neg (by decide)]
      have c1 := rWithin_c m 0 3332
      rw [hm] at c1
      have c5 := rFind_c b.accs (by omega) n
      have hneg : findS b.accs n < 0 := by
        have h1 := find_has b.accs n
        rw [hh'] at h1
        have := of_decide_eq_false h1
        omega
      clear h0 hb hh hh' h hm
      generalize findS b.accs n = q at *
      obtain ⟨ba, be, bc⟩ := b
      unfold cBook noEntry cEntry at *
      dsimp only at *
      refine realcall_intro Tryz.func75 (by kernel_rfl) rfl (Nat.le_of_ble_eq_true (by kernel_rfl)) ?_
      simp only [Tryz.results75, Tryz.ntmps75]
      repeat' (first | (with_reducible first | refine awp_seq ?_ | refine awp_blockS ?_ | refine awp_blockC ?_ | refine awp_blockR ?_ | refine awp_skip ?_ | refine awp_ret ?_ | refine awp_exit ?_ | refine awp_region ?_ | refine awp_regionD (id := 13) 11 mixed (by decide +kernel) ?_ | refine awp_regionD (id := 15) 12 mixed (by decide +kernel) ?_ | refine awp_condM ?_ | refine And.intro ?_ ?_ | apply gQ_merge | apply gE_merge | exact EqV_w | exact EqE_w | exact EqV_ptr | exact EqE_ptr | exact EqV_msl | exact EqE_msl | exact EqV_agg | exact EqE_agg | exact EqV_fn | exact EqE_fn | exact EqV_gd | exact EqE_gd | refine gM_splitN ?_ ?_ | refine gM_split ?_ ?_ |  refine condM_splitDN ?_ ?_ | refine condM_splitD ?_ ?_ | refine condM_splitN ?_ ?_ | refine condM_split ?_ ?_ | refine condM_any ?_ ?_ | refine cw (c1) ?_ | refine cw (c5) ?_ | intro _) | (simp [*, hneg]) | (refine cw_eq (c1) ?_ ?_; (· (simp [*]; done))) | (refine cw_eq (c5) ?_ ?_; (· (simp [*]; done))))
      all_goals first
        | omega
        | rfl
        | skip
  · have hm' : winB m 0 3332 = false := by simpa using hm
    have h : clE b m n = 2 := by unfold clE; rw [h0, hm']; rfl
    unfold closeS
    rw [h, if_neg (by decide)]
    have c1 := rWithin_c m 0 3332
    rw [hm'] at c1
    clear h0 hb h hm hm'
    obtain ⟨ba, be, bc⟩ := b
    unfold cBook noEntry cEntry at *
    dsimp only at *
    refine realcall_intro Tryz.func75 (by kernel_rfl) rfl (Nat.le_of_ble_eq_true (by kernel_rfl)) ?_
    simp only [Tryz.results75, Tryz.ntmps75]
    repeat' (first | (with_reducible first | refine awp_seq ?_ | refine awp_blockS ?_ | refine awp_blockC ?_ | refine awp_blockR ?_ | refine awp_skip ?_ | refine awp_ret ?_ | refine awp_exit ?_ | refine awp_region ?_ | refine awp_regionD (id := 13) 11 mixed (by decide +kernel) ?_ | refine awp_regionD (id := 15) 12 mixed (by decide +kernel) ?_ | refine awp_condM ?_ | refine And.intro ?_ ?_ | apply gQ_merge | apply gE_merge | exact EqV_w | exact EqE_w | exact EqV_ptr | exact EqE_ptr | exact EqV_msl | exact EqE_msl | exact EqV_agg | exact EqE_agg | exact EqV_fn | exact EqE_fn | exact EqV_gd | exact EqE_gd | refine gM_splitN ?_ ?_ | refine gM_split ?_ ?_ |  refine condM_splitDN ?_ ?_ | refine condM_splitD ?_ ?_ | refine condM_splitN ?_ ?_ | refine condM_split ?_ ?_ | refine condM_any ?_ ?_ | refine cw (c1) ?_ | intro _) | (simp [*]) | (refine cw_eq (c1) ?_ ?_; (· (simp [*]; done))))
    all_goals first
      | omega
      | rfl
      | skip
end Go.Proofs.YtdgbfbgnbgfmjaaGreatDoor
namespace Go.Proofs.YtdgbfbgnbgfmjaaGreatDoor
open Go Go.Fi
set_option maxRecDepth 20000

/-! ### a right book stays right: plain laws of posting -/
theorem linesF_eq {a : List Acc} : ∀ (l : List Line) (i : Nat) (s : Int), (∀ y ∈ l, lineE a y = 0) → linesF a l i s = (0, errUnless (decide (s + sumA l = 0)) 27)
  | [], _, s, _ => by
    unfold linesF sumA
    rw [Int.add_zero]
  | y :: r, i, s, h => by
    unfold linesF
    rw [if_pos (h y (by simp)), linesF_eq r (i + 1) (s + y.amt) (fun z hz => h z (by simp [hz]))]
    rw [Int.add_assoc]
    rfl
theorem entryS_mk {a : List Acc} {e : Entry} (h1 : headE e = 0) (h2 : ∀ y ∈ e.lines, lineE a y = 0) (h3 : sumA e.lines = 0) : (entryS a e).2 = 0 := by
  unfold entryS
  rw [if_pos h1, linesF_eq e.lines 0 0 h2, h3]
  rfl
theorem lineE_mk {l : List Acc} {y : Line} (h1 : hasS l y.acc = true) (h2 : y.amt ≠ 0) (h3 : smallB y.amt 1000000000 = true) : lineE l y = 0 := by
  unfold lineE
  rw [h1, h3, decide_eq_false h2]
  rfl
theorem bookF_mk {a : List Acc} {c : Int} : ∀ (l : List Entry) (i : Nat) (s : Int), (∀ y ∈ l, (entryS a y).2 = 0) → (∀ y ∈ l, s ≤ y.date) → l.Pairwise (fun x y => x.date ≤ y.date) → winB c 0 4000 = true → (bookF a c l i s).2 = 0
  | [], _, _, _, _, _, hc => by
    unfold bookF
    rw [hc]
    rfl
  | y :: r, i, s, h, hs, hp, hc => by
    unfold bookF
    rw [if_pos (entE_ok (h y (by simp)) (hs y (by simp)))]
    exact bookF_mk r (i + 1) y.date (fun z hz => h z (by simp [hz])) (fun z hz => (List.pairwise_cons.1 hp).1 z hz) (List.pairwise_cons.1 hp).2 hc
theorem bookF_cl {a : List Acc} {c : Int} : ∀ (l : List Entry) (i : Nat) (s : Int), (bookF a c l i s).2 = 0 → winB c 0 4000 = true
  | [], _, _, h => by
    unfold bookF at h
    exact unless_zero h (by decide)
  | y :: r, i, s, h => by
    unfold bookF at h
    by_cases hy : entE a s y = 0
    · rw [if_pos hy] at h; exact bookF_cl r _ _ h
    · rw [if_neg hy] at h; exact absurd h hy
theorem bookS_cl {b : Book} (h : (bookS b).2 = 0) : winB b.closed 0 4000 = true := by
  unfold bookS at h
  by_cases hh : bookH b = 0
  · rw [if_pos hh] at h; exact bookF_cl _ _ _ h
  · rw [if_neg hh] at h; exact absurd h hh
theorem bookS_pair {b : Book} (h : (bookS b).2 = 0) : b.entries.Pairwise (fun x y => x.date ≤ y.date) := by
  have hs := bookS_sorted h
  rw [List.pairwise_iff_getElem]
  intro i j hi hj hij
  have := hs i j (by omega) hj
  simp only [nth, List.getD_eq_getElem?_getD, List.getElem?_eq_getElem hi, List.getElem?_eq_getElem hj, Option.getD_some] at this
  exact this
theorem post_pair {l : List Entry} (x : Entry) (hp : l.Pairwise (fun x y => x.date ≤ y.date)) : (insAt l (postAt x.date l) [x]).Pairwise (fun x y => x.date ≤ y.date) := by
  have hle := postAt_le x.date l
  have hlo : ∀ y ∈ l.take (postAt x.date l), y.date ≤ x.date := fun y hy => by
    obtain ⟨k, hk, rfl⟩ := List.mem_iff_getElem.1 hy
    rw [List.length_take] at hk
    have := postAt_lo x.date l k (by omega)
    simp only [nth, List.getD_eq_getElem?_getD] at this
    rw [List.getElem?_eq_getElem (show k < l.length by omega)] at this
    rw [List.getElem_take]
    exact this
  have hhi : ∀ y ∈ l.drop (postAt x.date l), x.date ≤ y.date := fun y hy => by
    obtain ⟨k, hk, rfl⟩ := List.mem_iff_getElem.1 hy
    rw [List.length_drop] at hk
    have h0 : postAt x.date l < l.length := by omega
    have h1 := postAt_hi x.date l h0
    rw [List.getElem_drop]
    have h2 : (nth l (postAt x.date l)).date ≤ l[postAt x.date l + k].date := by
      rcases Nat.eq_zero_or_pos k with rfl | hk0
      · simp [nth, h0]
      · have := (List.pairwise_iff_getElem.1 hp) (postAt x.date l) (postAt x.date l + k) h0 (by omega) (by omega)
        simp only [nth, List.getD_eq_getElem?_getD, List.getElem?_eq_getElem h0, Option.getD_some]
        exact this
    omega
  unfold insAt
  rw [List.pairwise_append]
  refine ⟨?_, hp.sublist (List.drop_sublist _ _), fun a ha c hc => ?_⟩
  · rw [List.pairwise_append]
    refine ⟨hp.sublist (List.take_sublist _ _), by simp, fun a ha c hc => ?_⟩
    rw [List.mem_singleton] at hc
    subst hc
    exact hlo a ha
  · rcases List.mem_append.1 ha with ha | ha
    · exact Int.le_trans (hlo a ha) (hhi c hc)
    · rw [List.mem_singleton] at ha
      subst ha
      exact hhi c hc
theorem mem_insAt {α : Type} {l : List α} {p : Nat} {x y : α} (h : y ∈ insAt l p [x]) : y = x ∨ y ∈ l := by
  unfold insAt at h
  simp only [List.mem_append, List.mem_singleton] at h
  rcases h with (h | h) | h
  · exact .inr (List.mem_of_mem_take h)
  · exact .inl h
  · exact .inr (List.mem_of_mem_drop h)
theorem post_right {b : Book} {x : Entry} (h0 : (bookS b).2 = 0) (hx : (entryS b.accs x).2 = 0) (hl : b.entries.length < 100) : (bookS (postS b x)).2 = 0 := by
  have hr := bookS_zero h0
  have hent : ∀ y ∈ (postS b x).entries, (entryS b.accs y).2 = 0 := fun y hy => by
    rcases mem_insAt hy with rfl | hy
    · exact hx
    · obtain ⟨k, hk, rfl⟩ := mem_nth hy
      exact hr.ent k hk
  have hH : bookH (postS b x) = 0 := by
    unfold bookH
    have : ((postS b x).entries.length : Int) ≤ 100 := by
      unfold postS
      dsimp only
      rw [insAt_one _ _ _ (postAt_le _ _)]
      omega
    rw [decide_eq_true this, show (accsS (postS b x).accs).2 = 0 from hr.accs]
    rfl
  unfold bookS
  rw [if_pos hH]
  exact bookF_mk _ _ _ hent (fun y hy => entryS_date (hent y hy)) (post_pair x (bookS_pair h0)) (bookS_cl (b := b) h0)
theorem balS_app (n : ByteArray) (d : Int) (l r : List Entry) : balS n d (l ++ r) = balS n d l + balS n d r := by
  induction l with
  | nil => simp [balS]
  | cons y l ih =>
    simp only [List.cons_append, balS]
    rw [ih]
    split <;> omega
theorem balS_post (n : ByteArray) (d : Int) (b : Book) (x : Entry) : balS n d (postS b x).entries = balS n d b.entries + (if x.date ≤ d then putS n x.lines else 0) := by
  unfold postS insAt
  dsimp only
  rw [balS_app, balS_app]
  have h := balS_app n d (b.entries.take (postAt x.date b.entries)) (b.entries.drop (postAt x.date b.entries))
  rw [List.take_append_drop] at h
  rw [h]
  have h1 : balS n d [x] = if x.date ≤ d then putS n x.lines else 0 := by
    simp only [balS]
    split <;> omega
  omega
theorem accsF_diff : ∀ (l : List Acc) (a : List Acc) (i : Nat), i ≤ l.length → a = l.drop i → (accsF l a i).2 = 0 → ∀ k, i ≤ k → k < l.length → hasS (l.take k) (nth l k).name = false
  | l, [], i, hi, ha, _, k, hk, hl => by
    have := congrArg List.length ha
    simp at this
    omega
  | l, y :: r, i, hi, ha, h, k, hk, hl => by
    have hil : i < l.length := by
      rcases Nat.lt_or_ge i l.length with h | h
      · exact h
      · rw [List.drop_eq_nil_of_le h] at ha; cases ha
    have hy : y = nth l i ∧ r = l.drop (i + 1) := by
      rw [List.drop_eq_getElem_cons hil] at ha
      injection ha with h1 h2
      exact ⟨by rw [h1]; simp [nth, hil], h2⟩
    unfold accsF at h
    by_cases hq : accE (l.take i) y = 0
    · rw [if_pos hq] at h
      rcases Nat.eq_or_lt_of_le hk with rfl | hk
      · have := unless_zero (firstS_zero hq (errUnless (!hasS (l.take i) y.name) 5) (by simp)) (by decide)
        rw [hy.1] at this
        simpa using this
      · exact accsF_diff l r (i + 1) (by omega) hy.2 h k (by omega) hl
    · rw [if_neg hq] at h; exact absurd h hq
theorem accs_diff {l : List Acc} (h : (accsS l).2 = 0) : ∀ j k, j < k → k < l.length → (nth l j).name ≠ (nth l k).name := by
  intro j k hj hk he
  unfold accsS at h
  have h1 : ¬ l.length = 0 := by omega
  rw [if_neg h1] at h
  have h2 : ¬ 20 < l.length := by intro hh; rw [if_pos hh] at h; exact absurd h (by decide)
  rw [if_neg h2] at h
  have hd := accsF_diff l l 0 (by omega) rfl h k (by omega) hk
  have ht : hasS (l.take k) (nth l k).name = true := by
    unfold hasS
    rw [List.any_eq_true]
    refine ⟨nth l j, ?_, by unfold isA; exact decide_eq_true he⟩
    rw [List.mem_iff_getElem]
    refine ⟨j, by rw [List.length_take]; omega, ?_⟩
    simp [nth, show j < l.length by omega]
  rw [hd] at ht
  cases ht
theorem hasS_nth {l : List Acc} {k : Nat} (h : k < l.length) : hasS l (nth l k).name = true := by
  unfold hasS
  rw [List.any_eq_true]
  refine ⟨nth l k, ?_, by unfold isA; exact decide_eq_true rfl⟩
  simp only [nth, List.getD_eq_getElem?_getD, List.getElem?_eq_getElem h, Option.getD_some]
  exact List.getElem_mem h
end Go.Proofs.YtdgbfbgnbgfmjaaGreatDoor
namespace Go.Proofs.YtdgbfbgnbgfmjaaGreatDoor
open Go Go.Fi
set_option maxRecDepth 20000

/-! ### income and cost come to nothing: the plain law of the closing entry -/
theorem clK_put (f : ByteArray → Int) (l : List Acc) (hd : ∀ j k, j < k → k < l.length → (nth l j).name ≠ (nth l k).name) (i : Nat) (hi : i < l.length) : ∀ k, k ≤ l.length → putS (nth l i).name (clK f l k) = if i < k ∧ resB (nth l i) = true then -(f (nth l i).name) else 0
  | 0, _ => by
    rw [if_neg (fun h => absurd h.1 (Nat.not_lt_zero _))]
    rfl
  | k + 1, hk => by
    have ih := clK_put f l hd i hi k (by omega)
    cases hr : resB (nth l k) with
    | false =>
      rw [clK_no _ _ _ (.inl hr), ih]
      by_cases hik : i = k
      · subst hik
        rw [if_neg (fun h => by omega), if_neg (fun h => by rw [hr] at h; cases h.2)]
      · by_cases hc : i < k ∧ resB (nth l i) = true
        · rw [if_pos hc, if_pos ⟨by omega, hc.2⟩]
        · rw [if_neg hc, if_neg (fun h => hc ⟨by omega, h.2⟩)]
    | true =>
      by_cases h0 : f (nth l k).name = 0
      · rw [clK_no _ _ _ (.inr h0), ih]
        by_cases hik : i = k
        · subst hik
          rw [if_neg (fun h => by omega), if_pos ⟨by omega, hr⟩, h0]
          rfl
        · by_cases hc : i < k ∧ resB (nth l i) = true
          · rw [if_pos hc, if_pos ⟨by omega, hc.2⟩]
          · rw [if_neg hc, if_neg (fun h => hc ⟨by omega, h.2⟩)]
      · rw [clK_yes _ _ _ hr h0, putS_snoc, ih]
        dsimp only
        by_cases hik : i = k
        · subst hik
          rw [if_neg (fun h => by omega), if_pos rfl, if_pos ⟨by omega, hr⟩]
          omega
        · have hne : ¬ (nth l k).name = (nth l i).name := by
            rcases Nat.lt_or_ge i k with h | h
            · exact fun e => hd i k h (by omega) e.symm
            · exact fun e => hd k i (by omega) hi e
          rw [if_neg hne]
          by_cases hc : i < k ∧ resB (nth l i) = true
          · rw [if_pos hc, if_pos ⟨by omega, hc.2⟩]; omega
          · rw [if_neg hc, if_neg (fun h => hc ⟨by omega, h.2⟩)]; omega
theorem clK_sum (f : ByteArray → Int) (l : List Acc) : ∀ k, sumA (clK f l k) = -(nK f l k)
  | 0 => rfl
  | k + 1 => by
    have ih := clK_sum f l k
    cases hr : resB (nth l k) with
    | false => rw [clK_no _ _ _ (.inl hr), nK_no _ _ _ (.inl hr), ih]
    | true =>
      by_cases h0 : f (nth l k).name = 0
      · rw [clK_no _ _ _ (.inr h0), nK_no _ _ _ (.inr h0), ih]
      · rw [clK_yes _ _ _ hr h0, nK_yes _ _ _ hr h0, sumA_snoc, ih]
        dsimp only
        omega
theorem clK_line (f : ByteArray → Int) (l : List Acc) : ∀ k, k ≤ l.length → ∀ y ∈ clK f l k, hasS l y.acc = true ∧ y.amt ≠ 0
  | 0, _, y, hy => by cases hy
  | k + 1, hk, y, hy => by
    have ih := clK_line f l k (by omega)
    cases hr : resB (nth l k) with
    | false => rw [clK_no _ _ _ (.inl hr)] at hy; exact ih y hy
    | true =>
      by_cases h0 : f (nth l k).name = 0
      · rw [clK_no _ _ _ (.inr h0)] at hy; exact ih y hy
      · rw [clK_yes _ _ _ hr h0] at hy
        rcases List.mem_append.1 hy with hy | hy
        · exact ih y hy
        · rw [List.mem_singleton] at hy
          subst hy
          exact ⟨hasS_nth (by omega), fun e => h0 (by dsimp only at e; omega)⟩
theorem idxF_nth {α : Type} [Inhabited α] (p : α → Bool) : ∀ (l : List α) (i : Nat), 0 ≤ idxF p l i → (i : Int) ≤ idxF p l i ∧ (idxF p l i).toNat - i < l.length ∧ p (nth l ((idxF p l i).toNat - i)) = true
  | [], i, h => by unfold idxF at h; exact absurd h (by decide)
  | x :: r, i, h => by
    unfold idxF at h ⊢
    by_cases hx : p x = true
    · rw [if_pos hx]
      refine ⟨Int.le_refl _, by simp, ?_⟩
      rw [Int.toNat_natCast, Nat.sub_self]
      exact hx
    · rw [if_neg hx] at h ⊢
      obtain ⟨h1, h2, h3⟩ := idxF_nth p r (i + 1) h
      refine ⟨by omega, by simp only [List.length_cons]; omega, ?_⟩
      have he : (idxF p r (i + 1)).toNat - i = ((idxF p r (i + 1)).toNat - (i + 1)) + 1 := by omega
      rw [he]
      exact h3
theorem find_nth {l : List Acc} {n : ByteArray} (h : hasS l n = true) : (findS l n).toNat < l.length ∧ (nth l (findS l n).toNat).name = n := by
  have h1 := of_decide_eq_true ((find_has l n).trans h)
  have h2 := idxF_nth (isA n) l 0 h1
  rw [Nat.sub_zero] at h2
  exact ⟨h2.2.1, of_decide_eq_true h2.2.2⟩
theorem closeS_yes {b : Book} {m : Int} {n : ByteArray} (h : (closeS b m n).2 = 0) : clE b m n = 0 ∧ resB (nth b.accs (findS b.accs n).toNat) = false ∧ ¬ (clAll b m n).length = 0 ∧ muchL (clAll b m n) = false ∧ closeS b m n = (⟨clD m, bs [99, 108, 111, 115, 105, 110, 103], clAll b m n⟩, 0) := by
  unfold closeS at h ⊢
  by_cases h1 : clE b m n = 0
  · rw [if_pos h1] at h ⊢
    by_cases h2 : resB (nth b.accs (findS b.accs n).toNat) = true
    · rw [if_pos h2] at h; exact absurd h (by decide)
    · rw [if_neg h2] at h ⊢
      by_cases h3 : (clAll b m n).length = 0
      · rw [if_pos h3] at h; exact absurd h (by decide)
      · rw [if_neg h3] at h ⊢
        unfold largestS at h ⊢
        change (if muchL (clAll b m n) = true then _ else _ : Entry × Int).2 = 0 at h
        change _ ∧ _ ∧ _ ∧ _ ∧ (if muchL (clAll b m n) = true then _ else _ : Entry × Int) = _
        by_cases h4 : muchL (clAll b m n) = true
        · rw [if_pos h4] at h; exact absurd h (by decide)
        · rw [if_neg h4]
          exact ⟨h1, by simpa using h2, h3, by simpa using h4, rfl⟩
  · rw [if_neg h1] at h; exact absurd h h1
theorem closing_right {b : Book} {m : Int} {n : ByteArray} (h : (closeS b m n).2 = 0) : (entryS b.accs (closeS b m n).1).2 = 0 := by
  obtain ⟨h1, h2, h3, h4, h5⟩ := closeS_yes h
  rw [h5]
  have hz := firstS_zero h1
  have hm := winB_iff.1 (unless_zero (hz (errUnless (winB m 0 3332) 2) (by simp)) (by decide))
  have hh := unless_zero (hz (errUnless (hasS b.accs n) 6) (by simp)) (by decide)
  unfold muchL at h4
  rw [Bool.or_eq_false_iff] at h4
  have h12 := of_decide_eq_false h4.2
  have hsm : ∀ y ∈ clAll b m n, smallB y.amt 1000000000 = true := fun y hy => by
    have := List.any_eq_false.1 h4.1 y hy
    unfold greatB at this
    simpa using this
  have hs := clK_sum (clF b m) b.accs b.accs.length
  have hl := clK_line (clF b m) b.accs b.accs.length (Nat.le_refl _)
  have hsum : sumA (clAll b m n) = 0 := by
    unfold clAll
    split
    · omega
    · rw [sumA_snoc, hs]
      dsimp only
      omega
  have hline : ∀ y ∈ clAll b m n, hasS b.accs y.acc = true ∧ y.amt ≠ 0 := fun y hy => by
    unfold clAll at hy
    split at hy
    · exact hl y hy
    · rename_i hN
      rcases List.mem_append.1 hy with hy | hy
      · exact hl y hy
      · rw [List.mem_singleton] at hy
        subst hy
        exact ⟨hh, hN⟩
  have hlen : 2 ≤ (clAll b m n).length := by
    generalize clAll b m n = L at *
    match L, h3, hsum, hline with
    | [], h3, _, _ => exact absurd rfl h3
    | [y], _, hs, hl =>
      have := (hl y (by simp)).2
      simp only [sumA] at hs
      omega
    | _ :: _ :: _, _, _, _ => simp only [List.length_cons]; omega
  refine entryS_mk ?_ (fun y hy => lineE_mk (hline y hy).1 (hline y hy).2 (hsm y hy)) hsum
  unfold headE
  dsimp only
  have hd : dateE (clD m) = 0 := by
    unfold dateE
    rw [winB_iff.2 (by unfold clD; omega)]
    rfl
  have hn : noteE (bs [99, 108, 111, 115, 105, 110, 103]) = 0 := by decide +kernel
  rw [hd, hn, decide_eq_true (by omega), decide_eq_true (by omega)]
  rfl
theorem closing_put {b : Book} {m : Int} {n : ByteArray} (h : (closeS b m n).2 = 0) (h0 : (bookS b).2 = 0) (i : Nat) (hi : i < b.accs.length) (hr : resB (nth b.accs i) = true) : balS (nth b.accs i).name (clD m) (postS b (closeS b m n).1).entries = 0 := by
  obtain ⟨h1, h2, h3, h4, h5⟩ := closeS_yes h
  have hh := unless_zero (firstS_zero h1 (errUnless (hasS b.accs n) 6) (by simp)) (by decide)
  have hd := accs_diff (bookS_zero h0).accs
  obtain ⟨hf1, hf2⟩ := find_nth hh
  have hne : ¬ n = (nth b.accs i).name := fun e => by
    have : i = (findS b.accs n).toNat := by
      rcases Nat.lt_trichotomy i (findS b.accs n).toNat with hlt | heq | hgt
      · exact absurd (e.symm.trans hf2.symm) (hd _ _ hlt hf1)
      · exact heq
      · exact absurd (hf2.trans e) (hd _ _ hgt hi)
    rw [← this, hr] at h2
    cases h2
  have hp := clK_put (clF b m) b.accs hd i hi b.accs.length (Nat.le_refl _)
  rw [if_pos ⟨hi, hr⟩] at hp
  rw [balS_post, h5]
  dsimp only
  rw [if_pos (Int.le_refl _)]
  have hall : putS (nth b.accs i).name (clAll b m n) = -(clF b m (nth b.accs i).name) := by
    unfold clAll
    split
    · exact hp
    · rw [putS_snoc, hp]
      dsimp only
      rw [if_neg hne]
      omega
  rw [hall]
  unfold clF
  omega
end Go.Proofs.YtdgbfbgnbgfmjaaGreatDoor

