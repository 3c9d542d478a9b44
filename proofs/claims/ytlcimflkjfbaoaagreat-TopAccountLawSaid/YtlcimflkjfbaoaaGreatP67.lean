/- Contracts of functions for this claim: lemmas alone. -/
import Derived.Test.YtlcimflkjfbaoaaGreatP63
set_option linter.unusedSimpArgs false
set_option linter.unusedVariables false
namespace Go.Proofs.YtlcimflkjfbaoaaGreat
open Go Go.Fi
set_option maxRecDepth 20000

/-! ### opposite entries -/
def negK (l : List Line) (k : Nat) : List Line := negL (l.take k) ++ l.drop k
@[simp] theorem negK_zero (l : List Line) : negK l 0 = l := by simp [negK, negL]
theorem negK_all (l : List Line) : negK l l.length = negL l := by simp [negK]
@[simp] theorem negK_len (l : List Line) (k : Nat) : (negK l k).length = l.length := by
  simp [negK, negL]; omega
theorem nth_negK (l : List Line) (k : Nat) (h : k < l.length) : nth (negK l k) k = nth l k := by
  unfold negK negL
  simp only [nth, List.getD_eq_getElem?_getD]
  rw [List.getElem?_append_right (by simp; omega)]
  simp [Nat.min_eq_left (Nat.le_of_lt h)]
theorem negK_succ (l : List Line) (k : Nat) (h : k < l.length) : negK l (k + 1) = (negK l k).set k ⟨(nth l k).acc, -(nth l k).amt⟩ := by
  unfold negK negL
  rw [take_succ_nth l k h, drop_nth l k h, List.map_append, List.set_append_right _ _ (by simp; omega)]
  simp [Nat.min_eq_left (Nat.le_of_lt h)]
theorem cLines_set1 (v : Int) : ∀ (l : List Line) (k : Nat), k < l.length → (cLines l).set (k * 2 + 1) (.int .i64 v) = cLines (l.set k ⟨(nth l k).acc, v⟩)
  | x :: r, 0, _ => rfl
  | x :: r, k + 1, h => by
    rw [List.set_cons_succ, show nth (x :: r) (k + 1) = nth r k from rfl]
    have ih := cLines_set1 v r k (by simpa using h)
    show (PV.str x.acc :: PV.int .i64 x.amt :: cLines r).set ((k + 1) * 2 + 1) (.int .i64 v) = PV.str x.acc :: PV.int .i64 x.amt :: cLines _
    rw [← ih, show (k + 1) * 2 + 1 = (k * 2 + 1) + 1 + 1 by omega, List.set_cons_succ, List.set_cons_succ]
theorem lA_set1 (l : List Line) (k : Nat) (v : Int) (h : k < l.length) : (lA l).set (k * 2 + 1) (.w false false (.int .i64 v)) = lA (l.set k ⟨(nth l k).acc, v⟩) := by
  unfold lA; rw [← cLines_set1 v l k h, List.map_set]
@[simp] theorem lA_frs : ∀ l : List Line, AV.frs.frsL (lA l) = true
  | [] => rfl
  | x :: l => by
    have ih := lA_frs l
    show (AV.frs (.w false false (.str x.acc)) && (AV.frs (.w false false (.int .i64 x.amt)) && AV.frs.frsL (lA l))) = true
    rw [ih]; rfl
@[simp] theorem lA_sh (n : Nat) (l : List Line) : AV.sh.shL n (lA l) = lA l := shL_map n false false _
@[simp] theorem lA_ones : ∀ l : List Line, ones (lA l) = true
  | [] => rfl
  | x :: l => by
    have ih := lA_ones l
    show (AV.one (.w false false (.str x.acc)) && (AV.one (.w false false (.int .i64 x.amt)) && ones (lA l))) = true
    rw [ih]; rfl
theorem cLines_lA (l : List Line) : (cLines l).map (AV.w false false) = lA l := rfl
theorem clone_mk (l : List Line) (h : l.length < 100000) : MkCall Tryz.prog 63 [.sl l.length (cLines l)] [lA l] (.msl 0 (l.length * 2) 2 0 l.length) := by
  refine mkcall_intro 0 [] Tryz.func63 (by kernel_rfl) rfl (Nat.le_of_ble_eq_true (by kernel_rfl)) (by simp) (by simp) ?_
  simp only [Tryz.results63, Tryz.ntmps63]
  refine awp_seq ?_
  refine awp_region ?_
  simp
  refine awp_seq ?_
  refine awp_seq ?_
  refine awp_nil (ow := false) (fl := false) (k := l.length) (cells := cLines l) Tryz.underlying52 ?_ ?_ ?_ ?_
  · simp
  · decide
  · decide
  intro b hb
  cases b with
  | true =>
    have hl : l = [] := List.eq_nil_of_length_eq_zero (hb rfl).1
    subst hl
    repeat' (first | (with_reducible first | refine awp_seq ?_ | refine awp_blockS ?_ | refine awp_blockC ?_ | refine awp_blockR ?_ | refine awp_skip ?_ | refine awp_ret ?_ | refine awp_exit ?_ | refine awp_region ?_ | refine awp_condM ?_ | refine And.intro ?_ ?_ | refine gE_splitN ?_ ?_ | refine gE_split ?_ ?_ | refine gQ_splitN ?_ ?_ | refine gQ_split ?_ ?_ | refine gM_splitN ?_ ?_ | refine gM_split ?_ ?_ | refine condM_splitDN ?_ ?_ | refine condM_splitD ?_ ?_ | refine condM_splitN ?_ ?_ | refine condM_split ?_ ?_ | refine condM_any ?_ ?_ | intro _) | (simp [*, cLines]))
  | false =>
    clear hb
    repeat' (first | (with_reducible first | refine awp_seq ?_ | refine awp_blockS ?_ | refine awp_blockC ?_ | refine awp_blockR ?_ | refine awp_skip ?_ | refine awp_ret ?_ | refine awp_exit ?_ | refine awp_region ?_ | refine awp_condM ?_ | refine And.intro ?_ ?_ | refine gE_splitN ?_ ?_ | refine gE_split ?_ ?_ | refine gQ_splitN ?_ ?_ | refine gQ_split ?_ ?_ | refine gM_splitN ?_ ?_ | refine gM_split ?_ ?_ | refine condM_splitDN ?_ ?_ | refine condM_splitD ?_ ?_ | refine condM_splitN ?_ ?_ | refine condM_split ?_ ?_ | refine condM_any ?_ ?_ | intro _) | (simp [*, cLines_lA]))
    all_goals try omega
theorem copied_mk (e : Entry) (h : e.lines.length < 100000) : MkCall Tryz.prog 38 [.agg (cEntry e)] [lA e.lines] (.agg [.w false false (.int .i64 e.date), .w false false (.str e.note), .msl 0 (e.lines.length * 2) 2 0 e.lines.length]) := by
  have c1 := clone_mk e.lines h
  unfold cEntry
  refine mkcall_intro 2 [] Tryz.func38 (by kernel_rfl) rfl (Nat.le_of_ble_eq_true (by kernel_rfl)) (by simp) (by simp) ?_
  simp only [Tryz.results38, Tryz.ntmps38]
  repeat' (first | (with_reducible first | refine awp_seq ?_ | refine awp_blockS ?_ | refine awp_blockC ?_ | refine awp_blockR ?_ | refine awp_skip ?_ | refine awp_ret ?_ | refine awp_exit ?_ | refine awp_region ?_ | refine awp_condM ?_ | refine And.intro ?_ ?_ | apply gQ_merge | apply gE_merge | exact EqV_w | exact EqE_w | exact EqV_ptr | exact EqE_ptr | exact EqV_msl | exact EqE_msl | exact EqV_agg | exact EqE_agg | exact EqV_fn | exact EqE_fn | exact EqV_gd | exact EqE_gd | refine gM_splitN ?_ ?_ | refine gM_split ?_ ?_ |  refine condM_splitDN ?_ ?_ | refine condM_splitD ?_ ?_ | refine condM_splitN ?_ ?_ | refine condM_split ?_ ?_ | refine condM_any ?_ ?_ | refine cwM (c1) ?_ | intro _) | (simp [*]))
end Go.Proofs.YtlcimflkjfbaoaaGreat
namespace Go.Proofs.YtlcimflkjfbaoaaGreat
open Go Go.Fi
set_option maxRecDepth 20000

/-! ### opposite, and refunds -/
set_option maxHeartbeats 4000000 in
theorem opposite_c (e : Entry) (hl : e.lines.length < 10000) (ha : ∀ k, k < e.lines.length → -1000000000 ≤ (nth e.lines k).amt ∧ (nth e.lines k).amt ≤ 1000000000) : RealCall Tryz.prog 31 [.agg (cEntry e)] (.agg (cEntry ⟨e.date, e.note, negL e.lines⟩)) true := by
  have c1 := copied_mk e (by omega)
  have hN := negK_all e.lines
  have hnl := negL_len e.lines
  obtain ⟨ed, en, el⟩ := e
  unfold cEntry at *
  dsimp only at *
  rw [← hN] at hnl ⊢
  clear hN
  have ka := keep ha
  clear ha
  refine realcall_intro Tryz.func31 (by kernel_rfl) rfl (Nat.le_of_ble_eq_true (by kernel_rfl)) ?_
  simp only [Tryz.results31, Tryz.ntmps31]
  repeat' (first | (with_reducible first | refine awp_seq ?_ | refine awp_blockS ?_ | refine awp_blockC ?_ | refine awp_blockR ?_ | refine awp_skip ?_ | refine awp_ret ?_ | refine awp_exit ?_ | refine awp_region ?_ | refine awp_regionD (id := 5) 12 mixed (by decide +kernel) ?_ | refine awp_condM ?_ | refine And.intro ?_ ?_ | apply gQ_merge | apply gE_merge | exact EqV_w | exact EqE_w | exact EqV_ptr | exact EqE_ptr | exact EqV_msl | exact EqE_msl | exact EqV_agg | exact EqE_agg | exact EqV_fn | exact EqE_fn | exact EqV_gd | exact EqE_gd | refine gM_splitN ?_ ?_ | refine gM_split ?_ ?_ |  refine condM_splitDN ?_ ?_ | refine condM_splitD ?_ ?_ | refine condM_splitN ?_ ?_ | refine condM_split ?_ ?_ | refine condM_any ?_ ?_ | refine cwM (c1) ?_ | intro _) | (simp [*]))
  refine awp_for3 (fun (k : Nat) => k ≤ el.length) [1, 2, 8] (fun (k : Nat) => [(9, .w false false (.int .i64 k))]) [0, 1] (fun (k : Nat) => [(2, lA (negK el k))]) (fun (k : Nat) => el.length - k) (fun (_u : Unit) => True) [1, 2] (fun (_u : Unit) => []) [0, 1] (fun (_u : Unit) => [(2, lA (negK el el.length))]) (0) (Nat.zero_le _) (by simp) (by simp) (fun k hk => ?_) (fun _u hf => ?_)
  · by_cases hlt : k < el.length
    · obtain ⟨a1, a2⟩ := (show ∀ k, k < el.length → -1000000000 ≤ (nth el k).amt ∧ (nth el k).amt ≤ 1000000000 from ka) k hlt
      have ks := negK_succ el k hlt
      have hnk := nth_negK el k hlt
      have hnl2 := negK_len el k
      clear ka c1 hnl
      generalize negK el k = L at *
      have g1 := lA_1 L k (by omega)
      have g2 := fun v => lA_set1 L k v (by omega)
      rw [hnk] at g1 g2
      have kk := keep ks
      clear ks
      have hltL : k < L.length := by omega
      repeat' (first | (with_reducible first | refine awp_seq ?_ | refine awp_blockS ?_ | refine awp_blockC ?_ | refine awp_blockR ?_ | refine awp_skip ?_ | refine awp_ret ?_ | refine awp_exit ?_ | refine awp_region ?_ | refine awp_regionD (id := 5) 12 mixed (by decide +kernel) ?_ | refine awp_condM ?_ | refine And.intro ?_ ?_ | apply gQ_merge | apply gE_merge | exact EqV_w | exact EqE_w | exact EqV_ptr | exact EqE_ptr | exact EqV_msl | exact EqE_msl | exact EqV_agg | exact EqE_agg | exact EqV_fn | exact EqE_fn | exact EqV_gd | exact EqE_gd | refine gM_splitN ?_ ?_ | refine gM_split ?_ ?_ |  refine condM_splitDN ?_ ?_ | refine condM_splitD ?_ ?_ | refine condM_splitN ?_ ?_ | refine condM_split ?_ ?_ | refine condM_any ?_ ?_ | intro _) | (simp [*, hlt, hltL, hnl2, g1, g2]))
      all_goals try first | exact inI64 (by omega) (by omega) | omega
      all_goals (refine loopK_normal _ _ _ _ _ (k + 1) _ ?_ (by first | omega | (dsimp only; omega) | (simp; omega)) ?_; (· omega); (refine le_of ?_ ?_ <;> first | trivial | (simp [*, (show negK el (k + 1) = _ from kk)]; done)))
    · have hke : k = el.length := by omega
      subst hke
      clear ka c1 hnl
      repeat' (first | (with_reducible first | refine awp_seq ?_ | refine awp_blockS ?_ | refine awp_blockC ?_ | refine awp_blockR ?_ | refine awp_skip ?_ | refine awp_ret ?_ | refine awp_exit ?_ | refine awp_region ?_ | refine awp_regionD (id := 5) 12 mixed (by decide +kernel) ?_ | refine awp_condM ?_ | refine And.intro ?_ ?_ | apply gQ_merge | apply gE_merge | exact EqV_w | exact EqE_w | exact EqV_ptr | exact EqE_ptr | exact EqV_msl | exact EqE_msl | exact EqV_agg | exact EqE_agg | exact EqV_fn | exact EqE_fn | exact EqV_gd | exact EqE_gd | refine gM_splitN ?_ ?_ | refine gM_split ?_ ?_ |  refine condM_splitDN ?_ ?_ | refine condM_splitD ?_ ?_ | refine condM_splitN ?_ ?_ | refine condM_split ?_ ?_ | refine condM_any ?_ ?_ | intro _) | (simp [*]))
      all_goals (refine finW_intro () ?_ ?_; (· trivial); (refine le_of ?_ ?_ <;> first | trivial | (simp [*]; done)))
  · clear ka c1
    have hnl2 := negK_len el el.length
    generalize negK el el.length = L at *
    repeat' (first | (with_reducible first | refine awp_seq ?_ | refine awp_blockS ?_ | refine awp_blockC ?_ | refine awp_blockR ?_ | refine awp_skip ?_ | refine awp_ret ?_ | refine awp_exit ?_ | refine awp_region ?_ | refine awp_regionD (id := 5) 12 mixed (by decide +kernel) ?_ | refine awp_condM ?_ | refine And.intro ?_ ?_ | apply gQ_merge | apply gE_merge | exact EqV_w | exact EqE_w | exact EqV_ptr | exact EqE_ptr | exact EqV_msl | exact EqE_msl | exact EqV_agg | exact EqE_agg | exact EqV_fn | exact EqE_fn | exact EqV_gd | exact EqE_gd | refine gM_splitN ?_ ?_ | refine gM_split ?_ ?_ |  refine condM_splitDN ?_ ?_ | refine condM_splitD ?_ ?_ | refine condM_splitN ?_ ?_ | refine condM_split ?_ ?_ | refine condM_any ?_ ?_ | intro _) | (simp [*, hnl2]))
def rE (c : Compl) : Int := firstS [(decS c).2.2, errUnless (decide (0 < (decS c).1)) 12]
theorem fareL_one (r : Rule) (n : Int) (p : List Int) (h : 0 < n) : fareL r n 0 0 p = addK r p [⟨r.cash, n⟩] 3 := by
  have h1 : base1 r n 0 0 = [⟨r.cash, n⟩] := by
    unfold base1 addL
    rw [if_neg (by omega)]
    simp
  unfold fareL base2
  rw [h1]
  simp [addL]
theorem addK_amt (r : Rule) (p : List Int) (n : Int) (h1 : 0 ≤ n) (h2 : n ≤ 1000000000) (hp : ∀ k, k < 3 → 0 ≤ nth p k ∧ nth p k ≤ 1000000000) : ∀ k, k ≤ 3 → ∀ y ∈ addK r p [⟨r.cash, n⟩] k, -1000000000 ≤ y.amt ∧ y.amt ≤ 1000000000
  | 0, _ => by
    intro y hy
    simp only [addK_zero, List.mem_singleton] at hy
    subst hy
    dsimp only; omega
  | k + 1, hk => by
    have ih := addK_amt r p n h1 h2 hp k (by omega)
    have hpk := hp k (by omega)
    simp only [addK]
    exact addL_all ih (fun _ => by dsimp only; omega)
set_option maxHeartbeats 16000000 in
theorem refund_ok (l : List Acc) (hl : AccsIn l) (r : Rule) (c : Compl) (hn : c.note.size < 1000000) (h : ruleS l r = 0) (h2 : rE c = 0) (n : Int) (hd : decS c = (n, 2, 0)) (hn0 : 0 < n) (hn1 : n ≤ 1000000000) :
    RealCall Tryz.prog 13 [.sl l.length (cAccs l), .agg (cRule r), .agg (cCompl c)] (.tup [.agg (cEntry ⟨c.date, c.note, negL (fareL r n 0 0 (partsS r n))⟩), .int .i64 0]) true := by
  have c1 := checkRule_c l hl r
  obtain ⟨_, hs0⟩ := ruleS_zero h
  have hs := sharesOk hs0
  rw [h] at c1
  have c2 := decide_c c hn
  have c5 := first2_c (decS c).2.2 (errUnless (decide (0 < (decS c).1)) 12)
  change RealCall _ _ _ (.int .i64 (rE c)) true at c5
  rw [h2] at c5
  rw [hd] at c2 c5
  have cs := split_fare hs (f := n) (by omega) hn1
  rw [fareL_one r n _ hn0]
  have hp := partsS_len r n
  have hpb : ∀ k, k < 3 → 0 ≤ nth (partsS r n) k ∧ nth (partsS r n) k ≤ 1000000000 := fun k hk => ⟨parts_pos hs n k hk, by have := parts_le hs (f := n) (by omega) k hk; omega⟩
  generalize partsS r n = p at *
  clear h h2 hd hs0 hs hl hn
  obtain ⟨cd, cn, cp, cl, ch, csl⟩ := c
  dsimp only at *
  have hkl : ∀ k, (addK r p [⟨r.cash, n⟩] k).length ≤ 1 + k := by
    intro k
    induction k with
    | zero => simp
    | succ k ih => have := addL_len (addK r p [⟨r.cash, n⟩] k) (nth (three r) k) (-(nth p k)); simp only [addK]; omega
  have hamt := addK_amt r p n (by omega) hn1 hpb 3 (Nat.le_refl _)
  have copp := opposite_c ⟨cd, cn, addK r p [⟨r.cash, n⟩] 3⟩ (by have := hkl 3; dsimp only; omega) (fun k hk => hamt _ (by
    dsimp only at hk
    simp only [nth, List.getD_eq_getElem?_getD, List.getElem?_eq_getElem hk, Option.getD_some]
    exact List.getElem_mem hk))
  have kcopp := keep copp
  clear copp hamt
  unfold cCompl cRule at *
  dsimp only at *
  refine realcall_intro Tryz.func13 (by kernel_rfl) rfl (Nat.le_of_ble_eq_true (by kernel_rfl)) ?_
  simp only [Tryz.results13, Tryz.ntmps13]
  repeat' (first | (with_reducible first | refine awp_regionJ (id := 9) 2 Tryz.func29 (by kernel_rfl) rfl (by decide) rfl ?_ | refine awp_seq ?_ | refine awp_blockS ?_ | refine awp_blockC ?_ | refine awp_blockR ?_ | refine awp_skip ?_ | refine awp_ret ?_ | refine awp_exit ?_ | refine awp_region ?_ | refine awp_condM ?_ | refine And.intro ?_ ?_ | apply gQ_merge | apply gE_merge | exact EqV_w | exact EqE_w | exact EqV_ptr | exact EqE_ptr | exact EqV_msl | exact EqE_msl | exact EqV_agg | exact EqE_agg | exact EqV_fn | exact EqE_fn | exact EqV_gd | exact EqE_gd | refine gM_splitN ?_ ?_ | refine gM_split ?_ ?_ |  refine condM_splitDN ?_ ?_ | refine condM_splitD ?_ ?_ | refine condM_splitN ?_ ?_ | refine condM_split ?_ ?_ | refine condM_any ?_ ?_ | refine cw (c1) ?_ | refine cw (c2) ?_ | refine cw (c5) ?_ | refine cw (unless_c _ _) ?_ | intro _) | (simp [*]) | (refine cw_eq (c1) ?_ ?_; (· (simp [*]; done))) | (refine cw_eq (c2) ?_ ?_; (· (simp [*]; done))) | (refine cw_eq (c5) ?_ ?_; (· (simp [*]; done))) | (refine cw_eq (unless_c _ _) ?_ ?_; (· (simp [*]; done))))
  refine inlM_intro (Nat.le_of_ble_eq_true (by kernel_rfl)) (by simp) rfl ?_
  clear c1 c2 c5
  refine awp_join (fun _ : Unit => True) 5 [0, 2, 3, 4] (fun _ => [(6, .w false false (.ip [.str r.owner, .str r.driver, .str r.office, .int .i64 r.s0, .int .i64 r.s1, .int .i64 r.s2, .str r.cash, .str r.vouch] 0))]) (fun _ => [(2, [.w false false (.int .i64 0), .w false false (.str ByteArray.empty), .w true true (.sl 0 [])]), (4, [.w false false (.int .i64 cd), .w false false (.str cn), .w true true (.sl 0 [])])]) ?_ (fun _ _ => ?_)
  · repeat' (first | (with_reducible first | refine awp_seq ?_ | refine awp_blockS ?_ | refine awp_blockC ?_ | refine awp_blockR ?_ | refine awp_skip ?_ | refine awp_ret ?_ | refine awp_exit ?_ | refine awp_region ?_ | refine awp_condM ?_ | refine And.intro ?_ ?_ | apply gQ_merge | apply gE_merge | exact EqV_w | exact EqE_w | exact EqV_ptr | exact EqE_ptr | exact EqV_msl | exact EqE_msl | exact EqV_agg | exact EqE_agg | exact EqV_fn | exact EqE_fn | exact EqV_gd | exact EqE_gd | refine gM_splitN ?_ ?_ | refine gM_split ?_ ?_ |  refine condM_splitDN ?_ ?_ | refine condM_splitD ?_ ?_ | refine condM_splitN ?_ ?_ | refine condM_split ?_ ?_ | refine condM_any ?_ ?_ | intro _) | (simp [*]))
    all_goals (refine finW_intro () ?_ ?_; (· trivial); (refine le_gen [5] ?_ ?_ <;> first | trivial | (simp [*]; done)))
  refine awp_join (fun _ : Unit => True) 6 [0, 2, 3, 4, 6] (fun _ => [(10, .msl 5 3 1 0 3)]) (fun _ => [(2, [.w false false (.int .i64 0), .w false false (.str ByteArray.empty), .w true true (.sl 0 [])]), (4, [.w false false (.int .i64 cd), .w false false (.str cn), .w true true (.sl 0 [])]), (5, iA p)]) ?_ (fun _ _ => ?_)
  · repeat' (first | (with_reducible first | refine awp_seq ?_ | refine awp_blockS ?_ | refine awp_blockC ?_ | refine awp_blockR ?_ | refine awp_skip ?_ | refine awp_ret ?_ | refine awp_exit ?_ | refine awp_region ?_ | refine awp_condM ?_ | refine And.intro ?_ ?_ | apply gQ_merge | apply gE_merge | exact EqV_w | exact EqE_w | exact EqV_ptr | exact EqE_ptr | exact EqV_msl | exact EqE_msl | exact EqV_agg | exact EqE_agg | exact EqV_fn | exact EqE_fn | exact EqV_gd | exact EqE_gd | refine gM_splitN ?_ ?_ | refine gM_split ?_ ?_ |  refine condM_splitDN ?_ ?_ | refine condM_splitD ?_ ?_ | refine condM_splitN ?_ ?_ | refine condM_split ?_ ?_ | refine condM_any ?_ ?_ | refine cwM (cs) ?_ | intro _) | (simp [*]))
    all_goals (refine finW_intro () ?_ ?_; (· trivial); (refine le_gen [] ?_ ?_ <;> first | trivial | (simp [*]; done)))
  clear cs
  have hnz : ¬ n = 0 := by omega
  refine awp_join (fun _ : Unit => True) 8 [0, 2, 3, 4, 6, 10] (fun _ => []) (fun _ => [(2, [.w false false (.int .i64 0), .w false false (.str ByteArray.empty), .w true true (.sl 0 [])]), (4, [.w false false (.int .i64 cd), .w false false (.str cn), .msl 7 2 2 0 1]), (5, iA p), (7, lA [⟨r.cash, n⟩])]) ?_ (fun _ _ => ?_)
  · refine awp_regionJ (id := 2) 8 Tryz.func56 (by kernel_rfl) rfl (by decide) rfl ?_
    repeat' (first | (with_reducible first | refine awp_seq ?_ | refine awp_blockS ?_ | refine awp_blockC ?_ | refine awp_blockR ?_ | refine awp_skip ?_ | refine awp_ret ?_ | refine awp_exit ?_ | refine awp_region ?_ | refine awp_condM ?_ | refine And.intro ?_ ?_ | apply gQ_merge | apply gE_merge | exact EqV_w | exact EqE_w | exact EqV_ptr | exact EqE_ptr | exact EqV_msl | exact EqE_msl | exact EqV_agg | exact EqE_agg | exact EqV_fn | exact EqE_fn | exact EqV_gd | exact EqE_gd | refine gM_splitN ?_ ?_ | refine gM_split ?_ ?_ |  refine condM_splitDN ?_ ?_ | refine condM_splitD ?_ ?_ | refine condM_splitN ?_ ?_ | refine condM_split ?_ ?_ | refine condM_any ?_ ?_ | intro _) | (simp [*]))
    all_goals try exact inI64 (by omega) (by omega)
    refine inlM_intro (Nat.le_of_ble_eq_true (by kernel_rfl)) (by simp) rfl ?_
    repeat' (first | (with_reducible first | refine awp_seq ?_ | refine awp_blockS ?_ | refine awp_blockC ?_ | refine awp_blockR ?_ | refine awp_skip ?_ | refine awp_ret ?_ | refine awp_exit ?_ | refine awp_region ?_ | refine awp_condM ?_ | refine And.intro ?_ ?_ | apply gQ_merge | apply gE_merge | exact EqV_w | exact EqE_w | exact EqV_ptr | exact EqE_ptr | exact EqV_msl | exact EqE_msl | exact EqV_agg | exact EqE_agg | exact EqV_fn | exact EqE_fn | exact EqV_gd | exact EqE_gd | refine gM_splitN ?_ ?_ | refine gM_split ?_ ?_ |  refine condM_splitDN ?_ ?_ | refine condM_splitD ?_ ?_ | refine condM_splitN ?_ ?_ | refine condM_split ?_ ?_ | refine condM_any ?_ ?_ | intro _) | (simp [*, hnz]))
    all_goals try omega
    simp [RetA, resL]
    (refine finW_intro () ?_ ?_; (· trivial); (refine le_gen [] ?_ ?_ <;> first | trivial | (simp [*, Nat.add_mul, lA_one]; done)))
  refine awp_join (fun _ : Unit => True) 8 [0, 2, 3, 4, 6, 10] (fun _ => []) (fun _ => [(2, [.w false false (.int .i64 0), .w false false (.str ByteArray.empty), .w true true (.sl 0 [])]), (4, [.w false false (.int .i64 cd), .w false false (.str cn), .msl 7 2 2 0 1]), (5, iA p), (7, lA [⟨r.cash, n⟩])]) ?_ (fun _ _ => ?_)
  · refine awp_regionJ (id := 3) 4 Tryz.func56 (by kernel_rfl) rfl (by decide) rfl ?_
    repeat' (first | (with_reducible first | refine awp_seq ?_ | refine awp_blockS ?_ | refine awp_blockC ?_ | refine awp_blockR ?_ | refine awp_skip ?_ | refine awp_ret ?_ | refine awp_exit ?_ | refine awp_region ?_ | refine awp_condM ?_ | refine And.intro ?_ ?_ | apply gQ_merge | apply gE_merge | exact EqV_w | exact EqE_w | exact EqV_ptr | exact EqE_ptr | exact EqV_msl | exact EqE_msl | exact EqV_agg | exact EqE_agg | exact EqV_fn | exact EqE_fn | exact EqV_gd | exact EqE_gd | refine gM_splitN ?_ ?_ | refine gM_split ?_ ?_ |  refine condM_splitDN ?_ ?_ | refine condM_splitD ?_ ?_ | refine condM_splitN ?_ ?_ | refine condM_split ?_ ?_ | refine condM_any ?_ ?_ | intro _) | (simp [*]))
    all_goals try exact inI64 (by omega) (by omega)
    refine inlM_intro (Nat.le_of_ble_eq_true (by kernel_rfl)) (by simp) rfl ?_
    repeat' (first | (with_reducible first | refine awp_seq ?_ | refine awp_blockS ?_ | refine awp_blockC ?_ | refine awp_blockR ?_ | refine awp_skip ?_ | refine awp_ret ?_ | refine awp_exit ?_ | refine awp_region ?_ | refine awp_condM ?_ | refine And.intro ?_ ?_ | apply gQ_merge | apply gE_merge | exact EqV_w | exact EqE_w | exact EqV_ptr | exact EqE_ptr | exact EqV_msl | exact EqE_msl | exact EqV_agg | exact EqE_agg | exact EqV_fn | exact EqE_fn | exact EqV_gd | exact EqE_gd | refine gM_splitN ?_ ?_ | refine gM_split ?_ ?_ |  refine condM_splitDN ?_ ?_ | refine condM_splitD ?_ ?_ | refine condM_splitN ?_ ?_ | refine condM_split ?_ ?_ | refine condM_any ?_ ?_ | intro _) | (simp [*]))
    simp [RetA, resL]
    (refine finW_intro () ?_ ?_; (· trivial); (refine le_gen [] ?_ ?_ <;> first | trivial | (simp [*]; done)))
  have e1 : (addK r p [⟨r.cash, n⟩] 0).length = 1 := rfl
  have e2 : addK r p [⟨r.cash, n⟩] 0 = [⟨r.cash, n⟩] := rfl
  generalize hb : [(⟨r.cash, n⟩ : Line)] = b2 at *
  have hbl : b2.length = 1 := by rw [← hb]; rfl
  repeat' (first | (with_reducible first | refine awp_seq ?_ | refine awp_blockS ?_ | refine awp_blockC ?_ | refine awp_blockR ?_ | refine awp_skip ?_ | refine awp_ret ?_ | refine awp_exit ?_ | refine awp_region ?_ | refine awp_condM ?_ | refine And.intro ?_ ?_ | apply gQ_merge | apply gE_merge | exact EqV_w | exact EqE_w | exact EqV_ptr | exact EqE_ptr | exact EqV_msl | exact EqE_msl | exact EqV_agg | exact EqE_agg | exact EqV_fn | exact EqE_fn | exact EqV_gd | exact EqE_gd | refine gM_splitN ?_ ?_ | refine gM_split ?_ ?_ |  refine condM_splitDN ?_ ?_ | refine condM_splitD ?_ ?_ | refine condM_splitN ?_ ?_ | refine condM_split ?_ ?_ | refine condM_any ?_ ?_ | intro _) | (simp [*]))
  refine awp_for4 8 (fun (k : Nat) => k ≤ 3) [0, 3, 6, 10, 37] (fun (k : Nat) => [(38, .w false false (.int .i64 k))]) [2, 5] (fun (k : Nat) => [(4, [.w false false (.int .i64 cd), .w false false (.str cn), .msl 7 ((addK r p b2 k).length * 2) 2 0 (addK r p b2 k).length]), (7, lA (addK r p b2 k))]) (fun (k : Nat) => 3 - k) (fun (_u : Unit) => True) [0, 3, 6] (fun (_u : Unit) => []) [2] (fun (_u : Unit) => [(4, [.w false false (.int .i64 cd), .w false false (.str cn), .msl 7 ((addK r p b2 3).length * 2) 2 0 (addK r p b2 3).length]), (7, lA (addK r p b2 3))]) (0) (Nat.zero_le _) (le_gen [] (by simp [e1, e2, hbl]) (by simp [e1, e2, hbl])) (fun k hk => ?_) (fun _u hf => ?_)
  · by_cases hlt : k < 3
    · have hltI : (k : Int) < 3 := by omega
      have hg := three_get r k hlt
      have hpk := hpb k hlt
      have hl := hkl k
      have hsucc : addK r p b2 (k + 1) = addL (addK r p b2 k) (nth (three r) k) (-(nth p k)) := rfl
      clear hkl hpb e1 e2 kcopp hbl
      generalize addK r p b2 k = ls at *
      repeat' (first | (with_reducible first | refine awp_idx (j := k) (cs := [.w false false (.str r.owner), .w false false (.str r.driver), .w false false (.str r.office)]) (k := 3) (e := 9) (d1 := 40) (d2 := 41) (x := 37) (i := 38) (t := 38) (ow := false) (fl := false) rfl Tryz.underlying137 (by simp) (by simp) (by simp) (by simp) (by decide) (by decide) hlt (by simpa using hlt) (by decide) (by decide) ?_ | refine awp_regionJ (id := 7) 7 Tryz.func56 (by kernel_rfl) rfl (by decide) rfl ?_ | refine awp_seq ?_ | refine awp_blockS ?_ | refine awp_blockC ?_ | refine awp_blockR ?_ | refine awp_skip ?_ | refine awp_ret ?_ | refine awp_exit ?_ | refine awp_region ?_ | refine awp_condM ?_ | refine And.intro ?_ ?_ | apply gQ_merge | apply gE_merge | exact EqV_w | exact EqE_w | exact EqV_ptr | exact EqE_ptr | exact EqV_msl | exact EqE_msl | exact EqV_agg | exact EqE_agg | exact EqV_fn | exact EqE_fn | exact EqV_gd | exact EqE_gd | refine gM_splitN ?_ ?_ | refine gM_split ?_ ?_ |  refine condM_splitDN ?_ ?_ | refine condM_splitD ?_ ?_ | refine condM_splitN ?_ ?_ | refine condM_split ?_ ?_ | refine condM_any ?_ ?_ | intro _) | (simp [*, hlt, hg, hp]))
      all_goals try exact inI64 (by omega) (by omega)
      refine inlM_intro (Nat.le_of_ble_eq_true (by kernel_rfl)) (by simp) rfl ?_
      by_cases hz : -(nth p k) = 0
      · have hs : addK r p b2 (k + 1) = ls := by rw [hsucc]; exact if_pos hz
        clear hsucc
        have ks := keep hs
        have hz' : nth p k = 0 := by omega
        clear hs hz
        repeat' (first | (with_reducible first | refine awp_seq ?_ | refine awp_blockS ?_ | refine awp_blockC ?_ | refine awp_blockR ?_ | refine awp_skip ?_ | refine awp_ret ?_ | refine awp_exit ?_ | refine awp_region ?_ | refine awp_condM ?_ | refine And.intro ?_ ?_ | apply gQ_merge | apply gE_merge | exact EqV_w | exact EqE_w | exact EqV_ptr | exact EqE_ptr | exact EqV_msl | exact EqE_msl | exact EqV_agg | exact EqE_agg | exact EqV_fn | exact EqE_fn | exact EqV_gd | exact EqE_gd | refine gM_splitN ?_ ?_ | refine gM_split ?_ ?_ |  refine condM_splitDN ?_ ?_ | refine condM_splitD ?_ ?_ | refine condM_splitN ?_ ?_ | refine condM_split ?_ ?_ | refine condM_any ?_ ?_ | intro _) | (simp [*, hz']))
        simp [RetA, resL]
        repeat' (first | (with_reducible first | refine awp_seq ?_ | refine awp_blockS ?_ | refine awp_blockC ?_ | refine awp_blockR ?_ | refine awp_skip ?_ | refine awp_ret ?_ | refine awp_exit ?_ | refine awp_region ?_ | refine awp_condM ?_ | refine And.intro ?_ ?_ | apply gQ_merge | apply gE_merge | exact EqV_w | exact EqE_w | exact EqV_ptr | exact EqE_ptr | exact EqV_msl | exact EqE_msl | exact EqV_agg | exact EqE_agg | exact EqV_fn | exact EqE_fn | exact EqV_gd | exact EqE_gd | refine gM_splitN ?_ ?_ | refine gM_split ?_ ?_ |  refine condM_splitDN ?_ ?_ | refine condM_splitD ?_ ?_ | refine condM_splitN ?_ ?_ | refine condM_split ?_ ?_ | refine condM_any ?_ ?_ | intro _) | (simp [*]))
        all_goals try exact inI64 (by omega) (by omega)
        all_goals (refine loopK_normal _ _ _ _ _ (k + 1) _ ?_ (by first | omega | (dsimp only; omega) | (simp; omega)) ?_; (· omega); (refine le_gen [] ?_ ?_ <;> first | trivial | (simp [*, (show addK r p b2 (k + 1) = _ from ks)]; done)))
      · have hs : addK r p b2 (k + 1) = ls ++ [⟨nth (three r) k, -(nth p k)⟩] := by rw [hsucc]; exact if_neg hz
        clear hsucc
        have ks := keep hs
        clear hs
        generalize -(nth p k) = x at *
        repeat' (first | (with_reducible first | refine awp_seq ?_ | refine awp_blockS ?_ | refine awp_blockC ?_ | refine awp_blockR ?_ | refine awp_skip ?_ | refine awp_ret ?_ | refine awp_exit ?_ | refine awp_region ?_ | refine awp_condM ?_ | refine And.intro ?_ ?_ | apply gQ_merge | apply gE_merge | exact EqV_w | exact EqE_w | exact EqV_ptr | exact EqE_ptr | exact EqV_msl | exact EqE_msl | exact EqV_agg | exact EqE_agg | exact EqV_fn | exact EqE_fn | exact EqV_gd | exact EqE_gd | refine gM_splitN ?_ ?_ | refine gM_split ?_ ?_ |  refine condM_splitDN ?_ ?_ | refine condM_splitD ?_ ?_ | refine condM_splitN ?_ ?_ | refine condM_split ?_ ?_ | refine condM_any ?_ ?_ | intro _) | (simp [*, hz]))
        all_goals try omega
        simp [RetA, resL]
        repeat' (first | (with_reducible first | refine awp_seq ?_ | refine awp_blockS ?_ | refine awp_blockC ?_ | refine awp_blockR ?_ | refine awp_skip ?_ | refine awp_ret ?_ | refine awp_exit ?_ | refine awp_region ?_ | refine awp_condM ?_ | refine And.intro ?_ ?_ | apply gQ_merge | apply gE_merge | exact EqV_w | exact EqE_w | exact EqV_ptr | exact EqE_ptr | exact EqV_msl | exact EqE_msl | exact EqV_agg | exact EqE_agg | exact EqV_fn | exact EqE_fn | exact EqV_gd | exact EqE_gd | refine gM_splitN ?_ ?_ | refine gM_split ?_ ?_ |  refine condM_splitDN ?_ ?_ | refine condM_splitD ?_ ?_ | refine condM_splitN ?_ ?_ | refine condM_split ?_ ?_ | refine condM_any ?_ ?_ | intro _) | (simp [*]))
        all_goals try exact inI64 (by omega) (by omega)
        all_goals (refine loopK_normal _ _ _ _ _ (k + 1) _ ?_ (by first | omega | (dsimp only; omega) | (simp; omega)) ?_; (· omega); (refine le_gen [] ?_ ?_ <;> first | trivial | (simp [*, (show addK r p b2 (k + 1) = _ from ks), Nat.add_mul]; done)))
    · have hke : k = 3 := by omega
      subst hke
      clear e1 e2 kcopp hbl
      repeat' (first | (with_reducible first | refine awp_seq ?_ | refine awp_blockS ?_ | refine awp_blockC ?_ | refine awp_blockR ?_ | refine awp_skip ?_ | refine awp_ret ?_ | refine awp_exit ?_ | refine awp_region ?_ | refine awp_condM ?_ | refine And.intro ?_ ?_ | apply gQ_merge | apply gE_merge | exact EqV_w | exact EqE_w | exact EqV_ptr | exact EqE_ptr | exact EqV_msl | exact EqE_msl | exact EqV_agg | exact EqE_agg | exact EqV_fn | exact EqE_fn | exact EqV_gd | exact EqE_gd | refine gM_splitN ?_ ?_ | refine gM_split ?_ ?_ |  refine condM_splitDN ?_ ?_ | refine condM_splitD ?_ ?_ | refine condM_splitN ?_ ?_ | refine condM_split ?_ ?_ | refine condM_any ?_ ?_ | intro _) | (simp [*]))
      all_goals (refine finW_intro () ?_ ?_; (· trivial); (refine le_gen [] ?_ ?_ <;> first | trivial | (simp [*]; done)))
  have h5 := hkl 3
  clear hkl hpb e1 e2
  subst hb
  have copp := (show RealCall _ _ _ _ true from kcopp)
  clear kcopp
  generalize addK r p [⟨r.cash, n⟩] 3 = ls at *
  repeat' (first | (with_reducible first | refine awp_regionJ (id := 9) 5 Tryz.func56 (by kernel_rfl) rfl (by decide) rfl ?_ | refine awp_seq ?_ | refine awp_blockS ?_ | refine awp_blockC ?_ | refine awp_blockR ?_ | refine awp_skip ?_ | refine awp_ret ?_ | refine awp_exit ?_ | refine awp_region ?_ | refine awp_condM ?_ | refine And.intro ?_ ?_ | apply gQ_merge | apply gE_merge | exact EqV_w | exact EqE_w | exact EqV_ptr | exact EqE_ptr | exact EqV_msl | exact EqE_msl | exact EqV_agg | exact EqE_agg | exact EqV_fn | exact EqE_fn | exact EqV_gd | exact EqE_gd | refine gM_splitN ?_ ?_ | refine gM_split ?_ ?_ |  refine condM_splitDN ?_ ?_ | refine condM_splitD ?_ ?_ | refine condM_splitN ?_ ?_ | refine condM_split ?_ ?_ | refine condM_any ?_ ?_ | intro _) | (simp [*]))
  all_goals try exact inI64 (by omega) (by omega)
  refine inlM_intro (Nat.le_of_ble_eq_true (by kernel_rfl)) (by simp) rfl ?_
  repeat' (first | (with_reducible first | refine awp_seq ?_ | refine awp_blockS ?_ | refine awp_blockC ?_ | refine awp_blockR ?_ | refine awp_skip ?_ | refine awp_ret ?_ | refine awp_exit ?_ | refine awp_region ?_ | refine awp_condM ?_ | refine And.intro ?_ ?_ | apply gQ_merge | apply gE_merge | exact EqV_w | exact EqE_w | exact EqV_ptr | exact EqE_ptr | exact EqV_msl | exact EqE_msl | exact EqV_agg | exact EqE_agg | exact EqV_fn | exact EqE_fn | exact EqV_gd | exact EqE_gd | refine gM_splitN ?_ ?_ | refine gM_split ?_ ?_ |  refine condM_splitDN ?_ ?_ | refine condM_splitD ?_ ?_ | refine condM_splitN ?_ ?_ | refine condM_split ?_ ?_ | refine condM_any ?_ ?_ | intro _) | (simp [*]))
  simp [RetA, resL]
  unfold cEntry at *
  dsimp only at *
  repeat' (first | (with_reducible first | refine awp_seq ?_ | refine awp_blockS ?_ | refine awp_blockC ?_ | refine awp_blockR ?_ | refine awp_skip ?_ | refine awp_ret ?_ | refine awp_exit ?_ | refine awp_region ?_ | refine awp_condM ?_ | refine And.intro ?_ ?_ | apply gQ_merge | apply gE_merge | exact EqV_w | exact EqE_w | exact EqV_ptr | exact EqE_ptr | exact EqV_msl | exact EqE_msl | exact EqV_agg | exact EqE_agg | exact EqV_fn | exact EqE_fn | exact EqV_gd | exact EqE_gd | refine gM_splitN ?_ ?_ | refine gM_split ?_ ?_ |  refine condM_splitDN ?_ ?_ | refine condM_splitD ?_ ?_ | refine condM_splitN ?_ ?_ | refine condM_split ?_ ?_ | refine condM_any ?_ ?_ | refine cw (copp) ?_ | intro _) | (simp [*]) | (refine cw_eq (copp) ?_ ?_; (· (simp [*]; done))))
  all_goals try exact inI64 (by omega) (by omega)
end Go.Proofs.YtlcimflkjfbaoaaGreat
namespace Go.Proofs.YtlcimflkjfbaoaaGreat
open Go Go.Fi
set_option maxRecDepth 20000

/-! ### the entry of any trip -/
theorem fareEntry_bad (l : List Acc) (hl : AccsIn l) (r : Rule) (t : Trip) (hn : t.note.size < 1000000) (h : ¬ fareChk (ruleS l r) t = 0) : RealCall Tryz.prog 10 [.sl l.length (cAccs l), .agg (cRule r), .agg (cTrip t)] (.tup [.agg [.int .i64 0, .str ⟨#[]⟩, .sl 0 []], .int .i64 (fareChk (ruleS l r) t)]) true := by
  have c1 := checkRule_c l hl r
  have c2 := dateErr_c t.date
  have c3 := noteErr_c t.note hn
  have c4 := moneyErr_c [t.fare, t.tip, t.voucher] (show 3 < 100000 by decide)
  have e4 : ints [t.fare, t.tip, t.voucher] = [.int .i64 t.fare, .int .i64 t.tip, .int .i64 t.voucher] := rfl
  rw [e4] at c4
  change RealCall _ _ [.sl 3 _] _ _ at c4
  have c5 := first5_c (ruleS l r) (dateE t.date) (noteE t.note) (moneyE [t.fare, t.tip, t.voucher]) (errUnless (decide (t.voucher ≤ t.fare)) 24)
  change RealCall _ _ _ (.int .i64 (fareChk (ruleS l r) t)) true at c5
  clear e4 hl hn
  generalize fareChk (ruleS l r) t = V at *
  generalize ruleS l r = R at *
  obtain ⟨td, tn, tf, tt, tv⟩ := t
  unfold cTrip cRule at *
  dsimp only at *
  refine realcall_intro Tryz.func10 (by kernel_rfl) rfl (Nat.le_of_ble_eq_true (by kernel_rfl)) ?_
  simp only [Tryz.results10, Tryz.ntmps10]
  repeat' (first | (with_reducible first | refine awp_seq ?_ | refine awp_blockS ?_ | refine awp_blockC ?_ | refine awp_blockR ?_ | refine awp_skip ?_ | refine awp_ret ?_ | refine awp_exit ?_ | refine awp_region ?_ | refine awp_regionD (id := 1) 26 mixed (by decide +kernel) ?_ | refine awp_condM ?_ | refine And.intro ?_ ?_ | apply gQ_merge | apply gE_merge | exact EqV_w | exact EqE_w | exact EqV_ptr | exact EqE_ptr | exact EqV_msl | exact EqE_msl | exact EqV_agg | exact EqE_agg | exact EqV_fn | exact EqE_fn | exact EqV_gd | exact EqE_gd | refine gM_splitN ?_ ?_ | refine gM_split ?_ ?_ |  refine condM_splitDN ?_ ?_ | refine condM_splitD ?_ ?_ | refine condM_splitN ?_ ?_ | refine condM_split ?_ ?_ | refine condM_any ?_ ?_ | refine cw (c1) ?_ | refine cw (c2) ?_ | refine cw (c3) ?_ | refine cw (c4) ?_ | refine cw (c5) ?_ | refine cw (unless_c _ _) ?_ | intro _) | (simp [*, h, repl]) | (refine cw_eq (c1) ?_ ?_; (· (simp [*]; done))) | (refine cw_eq (c2) ?_ ?_; (· (simp [*]; done))) | (refine cw_eq (c3) ?_ ?_; (· (simp [*]; done))) | (refine cw_eq (c4) ?_ ?_; (· (simp [*]; done))) | (refine cw_eq (c5) ?_ ?_; (· (simp [*]; done))) | (refine cw_eq (unless_c _ _) ?_ ?_; (· (simp [*]; done))))
  all_goals rfl
theorem fareEntry_ok (l : List Acc) (hl : AccsIn l) (r : Rule) (t : Trip) (hn : t.note.size < 1000000) (hr : ruleS l r = 0) (h : fareChk 0 t = 0) : RealCall Tryz.prog 10 [.sl l.length (cAccs l), .agg (cRule r), .agg (cTrip t)] (.tup [.agg (cEntry (fareR r t).1), .int .i64 (fareR r t).2]) false := by
  have c1 := checkRule_c l hl r
  rw [hr] at c1
  obtain ⟨_, hs0⟩ := ruleS_zero hr
  have hs := sharesOk hs0
  obtain ⟨td, tn, tf, tt, tv, tl⟩ := fareChk_zero h
  have hlen := fareL_len r t.fare t.tip t.voucher (partsS r t.fare)
  have cl := largest_c ⟨t.date, t.note, fareL r t.fare t.tip t.voucher (partsS r t.fare)⟩ (by dsimp only; omega)
  have c := fareEntry_t l r t c1 hn h tf tt tv (partsS r t.fare) (partsS_len r t.fare) (fun k hk => ⟨parts_pos hs t.fare k hk, by have := parts_le hs tf.1 k hk; have := tf.2; omega⟩) (split_fare hs tf.1 tf.2) _ _ cl
  unfold fareR
  rw [if_pos h]
  unfold fareLn
  by_cases hz : (fareL r t.fare t.tip t.voucher (partsS r t.fare)).length = 0
  · rw [if_pos hz] at c ⊢
    exact c
  · rw [if_neg hz] at c ⊢
    exact c
end Go.Proofs.YtlcimflkjfbaoaaGreat

