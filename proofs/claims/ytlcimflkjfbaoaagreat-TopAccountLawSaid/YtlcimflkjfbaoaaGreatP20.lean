/- Contracts of functions for this claim: lemmas alone. -/
import Derived.Test.YtlcimflkjfbaoaaGreatP17
import Derived.Test.YtlcimflkjfbaoaaGreatLo
import Derived.Test.YtlcimflkjfbaoaaGreatP3
import Derived.Test.YtlcimflkjfbaoaaGreatP9
set_option linter.unusedSimpArgs false
set_option linter.unusedVariables false
namespace Go.Proofs.YtlcimflkjfbaoaaGreat
open Go Go.Fi
set_option maxRecDepth 20000

/-! ### the lines of a trip -/
def addL (ls : List Line) (a : ByteArray) (n : Int) : List Line := if n = 0 then ls else ls ++ [⟨a, n⟩]
def three (r : Rule) : List ByteArray := [r.owner, r.driver, r.office]
theorem three_get (r : Rule) (k : Nat) (h : k < 3) : nthA [.w false false (.str r.owner), .w false false (.str r.driver), .w false false (.str r.office)] k = .w false false (.str (nth (three r) k)) := by
  match k, h with
  | 0, _ => rfl
  | 1, _ => rfl
  | 2, _ => rfl
def base1 (r : Rule) (f t v : Int) : List Line := addL [] r.cash (f + t - v)
def base2 (r : Rule) (f t v : Int) : List Line := addL (base1 r f t v) r.vouch v
def addK (r : Rule) (p : List Int) (b : List Line) : Nat → List Line
  | 0 => b
  | k + 1 => addL (addK r p b k) (nth (three r) k) (-(nth p k))
def fareL (r : Rule) (f t v : Int) (p : List Int) : List Line := addL (addK r p (base2 r f t v) 3) r.driver (-t)
theorem addL_len (ls : List Line) (a : ByteArray) (n : Int) : (addL ls a n).length ≤ ls.length + 1 := by unfold addL; split <;> simp
@[simp] theorem addK_zero (r : Rule) (p : List Int) (b : List Line) : addK r p b 0 = b := rfl
theorem lA_one (x : ByteArray) (y : Int) : lA [⟨x, y⟩] = [.w false false (.str x), .w false false (.int .i64 y)] := rfl
def moneyOk (x : Int) : Prop := 0 ≤ x ∧ x ≤ 1000000000
def fareChk (ruleE : Int) (t : Trip) : Int := firstS [ruleE, dateE t.date, noteE t.note, moneyE [t.fare, t.tip, t.voucher], errUnless (decide (t.voucher ≤ t.fare)) 24]
set_option maxHeartbeats 16000000 in
theorem fareEntry_t (l : List Acc) (r : Rule) (t : Trip) (c1 : RealCall Tryz.prog 28 [.sl l.length (cAccs l), .agg (cRule r)] (.int .i64 0) true) (hn : t.note.size < 1000000) (h : fareChk 0 t = 0)
    (hf : moneyOk t.fare) (ht : moneyOk t.tip) (hv : moneyOk t.voucher) (p : List Int) (hp : p.length = 3) (hpb : ∀ k, k < 3 → 0 ≤ nth p k ∧ nth p k ≤ 1000000000)
    (cs : MkCall Tryz.prog 43 [.int .i64 t.fare, .sl 3 [.int .i64 r.s0, .int .i64 r.s1, .int .i64 r.s2]] [iA p] (.msl 0 3 1 0 3))
    (res : Entry) (re : Int) (cl : RealCall Tryz.prog 30 [.agg (cEntry ⟨t.date, t.note, fareL r t.fare t.tip t.voucher p⟩)] (.tup [.agg (cEntry res), .int .i64 re]) false) :
    RealCall Tryz.prog 10 [.sl l.length (cAccs l), .agg (cRule r), .agg (cTrip t)] (if (fareL r t.fare t.tip t.voucher p).length = 0 then .tup [.agg [.int .i64 0, .str ⟨#[]⟩, .sl 0 []], .int .i64 12] else .tup [.agg (cEntry res), .int .i64 re]) false := by
  have c2 := dateErr_c t.date
  have c3 := noteErr_c t.note hn
  have c4 := moneyErr_c [t.fare, t.tip, t.voucher] (show 3 < 100000 by decide)
  have e4 : ints [t.fare, t.tip, t.voucher] = [.int .i64 t.fare, .int .i64 t.tip, .int .i64 t.voucher] := rfl
  rw [e4] at c4
  change RealCall _ _ [.sl 3 _] _ _ at c4
  have c5 := first5_c 0 (dateE t.date) (noteE t.note) (moneyE [t.fare, t.tip, t.voucher]) (errUnless (decide (t.voucher ≤ t.fare)) 24)
  change RealCall _ _ _ (.int .i64 (fareChk 0 t)) true at c5
  rw [h] at c5
  clear h e4
  obtain ⟨td, tn, tf, tt, tv⟩ := t
  unfold cTrip
  dsimp only at *
  obtain ⟨f0, f1⟩ := hf
  obtain ⟨t0, t1⟩ := ht
  obtain ⟨v0, v1⟩ := hv
  unfold cRule at c1 ⊢
  have kcl := keep cl
  clear cl
  refine realcall_intro Tryz.func10 (by kernel_rfl) rfl (Nat.le_of_ble_eq_true (by kernel_rfl)) ?_
  simp only [Tryz.results10, Tryz.ntmps10]
  repeat' (first | (with_reducible first | refine awp_regionJ (id := 5) 7 Tryz.func29 (by kernel_rfl) rfl (by decide) rfl ?_ | refine awp_seq ?_ | refine awp_blockS ?_ | refine awp_blockC ?_ | refine awp_blockR ?_ | refine awp_skip ?_ | refine awp_ret ?_ | refine awp_exit ?_ | refine awp_region ?_ | refine awp_regionD (id := 1) 26 mixed (by decide +kernel) ?_ | refine awp_condM ?_ | refine And.intro ?_ ?_ | apply gQ_merge | apply gE_merge | exact EqV_w | exact EqE_w | exact EqV_ptr | exact EqE_ptr | exact EqV_msl | exact EqE_msl | exact EqV_agg | exact EqE_agg | exact EqV_fn | exact EqE_fn | exact EqV_gd | exact EqE_gd | refine gM_splitN ?_ ?_ | refine gM_split ?_ ?_ |  refine condM_splitDN ?_ ?_ | refine condM_splitD ?_ ?_ | refine condM_splitN ?_ ?_ | refine condM_split ?_ ?_ | refine condM_any ?_ ?_ | refine cw (c1) ?_ | refine cw (c2) ?_ | refine cw (c3) ?_ | refine cw (c4) ?_ | refine cw (c5) ?_ | refine cw (unless_c _ _) ?_ | intro _) | (simp [*, repl]) | (refine cw_eq (c1) ?_ ?_; (· (simp [*]; done))) | (refine cw_eq (c2) ?_ ?_; (· (simp [*]; done))) | (refine cw_eq (c3) ?_ ?_; (· (simp [*]; done))) | (refine cw_eq (c4) ?_ ?_; (· (simp [*]; done))) | (refine cw_eq (c5) ?_ ?_; (· (simp [*]; done))) | (refine cw_eq (unless_c _ _) ?_ ?_; (· (simp [*]; done))))
  refine inlM_intro (Nat.le_of_ble_eq_true (by kernel_rfl)) (by simp) rfl ?_
  clear c1 c2 c3 c4 c5
  refine awp_join (fun _ : Unit => True) 6 [0, 2, 3, 4] (fun _ => [(6, .w false false (.ip [.str r.owner, .str r.driver, .str r.office, .int .i64 r.s0, .int .i64 r.s1, .int .i64 r.s2, .str r.cash, .str r.vouch] 0))]) (fun _ => [(2, [.w false false (.int .i64 0), .w false false (.str ByteArray.empty), .w true true (.sl 0 [])]), (5, [.w false false (.int .i64 td), .w false false (.str tn), .w true true (.sl 0 [])])]) ?_ (fun _ _ => ?_)
  · repeat' (first | (with_reducible first | refine awp_seq ?_ | refine awp_blockS ?_ | refine awp_blockC ?_ | refine awp_blockR ?_ | refine awp_skip ?_ | refine awp_ret ?_ | refine awp_exit ?_ | refine awp_region ?_ | refine awp_condM ?_ | refine And.intro ?_ ?_ | apply gQ_merge | apply gE_merge | exact EqV_w | exact EqE_w | exact EqV_ptr | exact EqE_ptr | exact EqV_msl | exact EqE_msl | exact EqV_agg | exact EqE_agg | exact EqV_fn | exact EqE_fn | exact EqV_gd | exact EqE_gd | refine gM_splitN ?_ ?_ | refine gM_split ?_ ?_ |  refine condM_splitDN ?_ ?_ | refine condM_splitD ?_ ?_ | refine condM_splitN ?_ ?_ | refine condM_split ?_ ?_ | refine condM_any ?_ ?_ | intro _) | (simp [*]))
    all_goals (refine finW_intro () ?_ ?_; (· trivial); (refine le_gen [6] ?_ ?_ <;> first | trivial | (simp [*]; done)))
  refine awp_join (fun _ : Unit => True) 7 [0, 2, 3, 4, 6] (fun _ => [(10, .msl 6 3 1 0 3)]) (fun _ => [(2, [.w false false (.int .i64 0), .w false false (.str ByteArray.empty), .w true true (.sl 0 [])]), (5, [.w false false (.int .i64 td), .w false false (.str tn), .w true true (.sl 0 [])]), (6, iA p)]) ?_ (fun _ _ => ?_)
  · repeat' (first | (with_reducible first | refine awp_seq ?_ | refine awp_blockS ?_ | refine awp_blockC ?_ | refine awp_blockR ?_ | refine awp_skip ?_ | refine awp_ret ?_ | refine awp_exit ?_ | refine awp_region ?_ | refine awp_condM ?_ | refine And.intro ?_ ?_ | apply gQ_merge | apply gE_merge | exact EqV_w | exact EqE_w | exact EqV_ptr | exact EqE_ptr | exact EqV_msl | exact EqE_msl | exact EqV_agg | exact EqE_agg | exact EqV_fn | exact EqE_fn | exact EqV_gd | exact EqE_gd | refine gM_splitN ?_ ?_ | refine gM_split ?_ ?_ |  refine condM_splitDN ?_ ?_ | refine condM_splitD ?_ ?_ | refine condM_splitN ?_ ?_ | refine condM_split ?_ ?_ | refine condM_any ?_ ?_ | refine cwM (cs) ?_ | intro _) | (simp [*]))
    all_goals (refine finW_intro () ?_ ?_; (· trivial); (refine le_gen [] ?_ ?_ <;> first | trivial | (simp [*]; done)))
  clear cs
  have hb1 := addL_len [] r.cash (tf + tt - tv)
  refine awp_join (fun _ : Unit => True) 9 [0, 2, 3, 4, 6, 10] (fun _ => []) (fun _ => [(2, [.w false false (.int .i64 0), .w false false (.str ByteArray.empty), .w true true (.sl 0 [])]), (5, [.w false false (.int .i64 td), .w false false (.str tn), .msl 8 ((base1 r tf tt tv).length * 2) 2 0 (base1 r tf tt tv).length]), (6, iA p), (8, lA (base1 r tf tt tv))]) ?_ (fun _ _ => ?_)
  · refine awp_regionJ (id := 2) 8 Tryz.func56 (by kernel_rfl) rfl (by decide) rfl ?_
    repeat' (first | (with_reducible first | refine awp_seq ?_ | refine awp_blockS ?_ | refine awp_blockC ?_ | refine awp_blockR ?_ | refine awp_skip ?_ | refine awp_ret ?_ | refine awp_exit ?_ | refine awp_region ?_ | refine awp_condM ?_ | refine And.intro ?_ ?_ | apply gQ_merge | apply gE_merge | exact EqV_w | exact EqE_w | exact EqV_ptr | exact EqE_ptr | exact EqV_msl | exact EqE_msl | exact EqV_agg | exact EqE_agg | exact EqV_fn | exact EqE_fn | exact EqV_gd | exact EqE_gd | refine gM_splitN ?_ ?_ | refine gM_split ?_ ?_ |  refine condM_splitDN ?_ ?_ | refine condM_splitD ?_ ?_ | refine condM_splitN ?_ ?_ | refine condM_split ?_ ?_ | refine condM_any ?_ ?_ | intro _) | (simp [*]))
    all_goals try exact inI64 (by omega) (by omega)
    refine inlM_intro (Nat.le_of_ble_eq_true (by kernel_rfl)) (by simp) rfl ?_
    by_cases hz : tf + tt - tv = 0
    · have hs : (base1 r tf tt tv) = ([] : List Line) := if_pos hz
      rw [hs]
      clear hs
      repeat' (first | (with_reducible first | refine awp_seq ?_ | refine awp_blockS ?_ | refine awp_blockC ?_ | refine awp_blockR ?_ | refine awp_skip ?_ | refine awp_ret ?_ | refine awp_exit ?_ | refine awp_region ?_ | refine awp_condM ?_ | refine And.intro ?_ ?_ | apply gQ_merge | apply gE_merge | exact EqV_w | exact EqE_w | exact EqV_ptr | exact EqE_ptr | exact EqV_msl | exact EqE_msl | exact EqV_agg | exact EqE_agg | exact EqV_fn | exact EqE_fn | exact EqV_gd | exact EqE_gd | refine gM_splitN ?_ ?_ | refine gM_split ?_ ?_ |  refine condM_splitDN ?_ ?_ | refine condM_splitD ?_ ?_ | refine condM_splitN ?_ ?_ | refine condM_split ?_ ?_ | refine condM_any ?_ ?_ | intro _) | (simp [*, hz]))
      simp [RetA, resL]
      (refine finW_intro () ?_ ?_; (· trivial); (refine le_gen [] ?_ ?_ <;> first | trivial | (simp [*]; done)))
    · have hs : (base1 r tf tt tv) = ([] : List Line) ++ [⟨r.cash, tf + tt - tv⟩] := if_neg hz
      rw [hs]
      clear hs
      repeat' (first | (with_reducible first | refine awp_seq ?_ | refine awp_blockS ?_ | refine awp_blockC ?_ | refine awp_blockR ?_ | refine awp_skip ?_ | refine awp_ret ?_ | refine awp_exit ?_ | refine awp_region ?_ | refine awp_condM ?_ | refine And.intro ?_ ?_ | apply gQ_merge | apply gE_merge | exact EqV_w | exact EqE_w | exact EqV_ptr | exact EqE_ptr | exact EqV_msl | exact EqE_msl | exact EqV_agg | exact EqE_agg | exact EqV_fn | exact EqE_fn | exact EqV_gd | exact EqE_gd | refine gM_splitN ?_ ?_ | refine gM_split ?_ ?_ |  refine condM_splitDN ?_ ?_ | refine condM_splitD ?_ ?_ | refine condM_splitN ?_ ?_ | refine condM_split ?_ ?_ | refine condM_any ?_ ?_ | intro _) | (simp [*, hz]))
      all_goals try omega
      simp [RetA, resL]
      (refine finW_intro () ?_ ?_; (· trivial); (refine le_gen [] ?_ ?_ <;> first | trivial | (simp [*, Nat.add_mul, lA_one]; done)))
  have hb1' : (base1 r tf tt tv).length ≤ 1 := hb1
  clear hb1
  have hb2 : (base2 r tf tt tv).length ≤ (base1 r tf tt tv).length + 1 := addL_len _ _ _
  refine awp_join (fun _ : Unit => True) 9 [0, 2, 3, 4, 6, 10] (fun _ => []) (fun _ => [(2, [.w false false (.int .i64 0), .w false false (.str ByteArray.empty), .w true true (.sl 0 [])]), (5, [.w false false (.int .i64 td), .w false false (.str tn), .msl 8 ((base2 r tf tt tv).length * 2) 2 0 (base2 r tf tt tv).length]), (6, iA p), (8, lA (base2 r tf tt tv))]) ?_ (fun _ _ => ?_)
  · refine awp_regionJ (id := 3) 4 Tryz.func56 (by kernel_rfl) rfl (by decide) rfl ?_
    repeat' (first | (with_reducible first | refine awp_seq ?_ | refine awp_blockS ?_ | refine awp_blockC ?_ | refine awp_blockR ?_ | refine awp_skip ?_ | refine awp_ret ?_ | refine awp_exit ?_ | refine awp_region ?_ | refine awp_condM ?_ | refine And.intro ?_ ?_ | apply gQ_merge | apply gE_merge | exact EqV_w | exact EqE_w | exact EqV_ptr | exact EqE_ptr | exact EqV_msl | exact EqE_msl | exact EqV_agg | exact EqE_agg | exact EqV_fn | exact EqE_fn | exact EqV_gd | exact EqE_gd | refine gM_splitN ?_ ?_ | refine gM_split ?_ ?_ |  refine condM_splitDN ?_ ?_ | refine condM_splitD ?_ ?_ | refine condM_splitN ?_ ?_ | refine condM_split ?_ ?_ | refine condM_any ?_ ?_ | intro _) | (simp [*]))
    all_goals try exact inI64 (by omega) (by omega)
    refine inlM_intro (Nat.le_of_ble_eq_true (by kernel_rfl)) (by simp) rfl ?_
    by_cases hz : tv = 0
    · have hs : (base2 r tf tt tv) = (base1 r tf tt tv) := if_pos hz
      rw [hs]
      clear hs
      repeat' (first | (with_reducible first | refine awp_seq ?_ | refine awp_blockS ?_ | refine awp_blockC ?_ | refine awp_blockR ?_ | refine awp_skip ?_ | refine awp_ret ?_ | refine awp_exit ?_ | refine awp_region ?_ | refine awp_condM ?_ | refine And.intro ?_ ?_ | apply gQ_merge | apply gE_merge | exact EqV_w | exact EqE_w | exact EqV_ptr | exact EqE_ptr | exact EqV_msl | exact EqE_msl | exact EqV_agg | exact EqE_agg | exact EqV_fn | exact EqE_fn | exact EqV_gd | exact EqE_gd | refine gM_splitN ?_ ?_ | refine gM_split ?_ ?_ |  refine condM_splitDN ?_ ?_ | refine condM_splitD ?_ ?_ | refine condM_splitN ?_ ?_ | refine condM_split ?_ ?_ | refine condM_any ?_ ?_ | intro _) | (simp [*, hz]))
      simp [RetA, resL]
      (refine finW_intro () ?_ ?_; (· trivial); (refine le_gen [] ?_ ?_ <;> first | trivial | (simp [*]; done)))
    · have hs : (base2 r tf tt tv) = (base1 r tf tt tv) ++ [⟨r.vouch, tv⟩] := if_neg hz
      rw [hs]
      clear hs
      repeat' (first | (with_reducible first | refine awp_seq ?_ | refine awp_blockS ?_ | refine awp_blockC ?_ | refine awp_blockR ?_ | refine awp_skip ?_ | refine awp_ret ?_ | refine awp_exit ?_ | refine awp_region ?_ | refine awp_condM ?_ | refine And.intro ?_ ?_ | apply gQ_merge | apply gE_merge | exact EqV_w | exact EqE_w | exact EqV_ptr | exact EqE_ptr | exact EqV_msl | exact EqE_msl | exact EqV_agg | exact EqE_agg | exact EqV_fn | exact EqE_fn | exact EqV_gd | exact EqE_gd | refine gM_splitN ?_ ?_ | refine gM_split ?_ ?_ |  refine condM_splitDN ?_ ?_ | refine condM_splitD ?_ ?_ | refine condM_splitN ?_ ?_ | refine condM_split ?_ ?_ | refine condM_any ?_ ?_ | intro _) | (simp [*, hz]))
      all_goals try omega
      simp [RetA, resL]
      (refine finW_intro () ?_ ?_; (· trivial); (refine le_gen [] ?_ ?_ <;> first | trivial | (simp [*, Nat.add_mul, lA_one]; done)))
  have hb2' : (base2 r tf tt tv).length ≤ 2 := by omega
  clear hb1' hb2
  have hF : fareL r tf tt tv p = addL (addK r p (base2 r tf tt tv) 3) r.driver (-tt) := rfl
  rw [hF] at kcl ⊢
  clear hF
  generalize base2 r tf tt tv = b2 at *
  have hkl : ∀ k, (addK r p b2 k).length ≤ 2 + k := by
    intro k
    induction k with
    | zero => simpa using hb2'
    | succ k ih => have := addL_len (addK r p b2 k) (nth (three r) k) (-(nth p k)); simp only [addK]; omega
  repeat' (first | (with_reducible first | refine awp_seq ?_ | refine awp_blockS ?_ | refine awp_blockC ?_ | refine awp_blockR ?_ | refine awp_skip ?_ | refine awp_ret ?_ | refine awp_exit ?_ | refine awp_region ?_ | refine awp_condM ?_ | refine And.intro ?_ ?_ | apply gQ_merge | apply gE_merge | exact EqV_w | exact EqE_w | exact EqV_ptr | exact EqE_ptr | exact EqV_msl | exact EqE_msl | exact EqV_agg | exact EqE_agg | exact EqV_fn | exact EqE_fn | exact EqV_gd | exact EqE_gd | refine gM_splitN ?_ ?_ | refine gM_split ?_ ?_ |  refine condM_splitDN ?_ ?_ | refine condM_splitD ?_ ?_ | refine condM_splitN ?_ ?_ | refine condM_split ?_ ?_ | refine condM_any ?_ ?_ | intro _) | (simp [*]))
  refine awp_for4 9 (fun (k : Nat) => k ≤ 3) [0, 3, 6, 10, 37] (fun (k : Nat) => [(38, .w false false (.int .i64 k))]) [2, 6] (fun (k : Nat) => [(5, [.w false false (.int .i64 td), .w false false (.str tn), .msl 8 ((addK r p b2 k).length * 2) 2 0 (addK r p b2 k).length]), (8, lA (addK r p b2 k))]) (fun (k : Nat) => 3 - k) (fun (_u : Unit) => True) [0, 3, 6] (fun (_u : Unit) => []) [2] (fun (_u : Unit) => [(5, [.w false false (.int .i64 td), .w false false (.str tn), .msl 8 ((addK r p b2 3).length * 2) 2 0 (addK r p b2 3).length]), (8, lA (addK r p b2 3))]) (0) (Nat.zero_le _) (le_gen [] (by simp) (by simp)) (fun k hk => ?_) (fun _u hf => ?_)
  · by_cases hlt : k < 3
    · have hltI : (k : Int) < 3 := by omega
      have hg := three_get r k hlt
      have hpk := hpb k hlt
      have hl := hkl k
      have hsucc : addK r p b2 (k + 1) = addL (addK r p b2 k) (nth (three r) k) (-(nth p k)) := rfl
      clear hkl hpb
      generalize addK r p b2 k = ls at *
      repeat' (first | (with_reducible first | refine awp_idx (j := k) (cs := [.w false false (.str r.owner), .w false false (.str r.driver), .w false false (.str r.office)]) (k := 3) (e := 9) (d1 := 40) (d2 := 41) (x := 37) (i := 38) (t := 38) (ow := false) (fl := false) rfl Tryz.underlying137 (by simp) (by simp) (by simp) (by simp) (by decide) (by decide) hlt (by simpa using hlt) (by decide) (by decide) ?_ | refine awp_regionJ (id := 7) 7 Tryz.func56 (by kernel_rfl) rfl (by decide) rfl ?_ | refine awp_seq ?_ | refine awp_blockS ?_ | refine awp_blockC ?_ | refine awp_blockR ?_ | refine awp_skip ?_ | refine awp_ret ?_ | refine awp_exit ?_ | refine awp_region ?_ | refine awp_condM ?_ | refine And.intro ?_ ?_ | apply gQ_merge | apply gE_merge | exact EqV_w | exact EqE_w | exact EqV_ptr | exact EqE_ptr | exact EqV_msl | exact EqE_msl | exact EqV_agg | exact EqE_agg | exact EqV_fn | exact EqE_fn | exact EqV_gd | exact EqE_gd | refine gM_splitN ?_ ?_ | refine gM_split ?_ ?_ |  refine condM_splitDN ?_ ?_ | refine condM_splitD ?_ ?_ | refine condM_splitN ?_ ?_ | refine condM_split ?_ ?_ | refine condM_any ?_ ?_ | intro _) | (simp [*, hlt, hg, hp]))
      all_goals try exact inI64 (by omega) (by omega)
      refine inlM_intro (Nat.le_of_ble_eq_true (by kernel_rfl)) (by simp) rfl ?_
      by_cases hz : -(nth p k) = 0
      · have hs : addK r p b2 (k + 1) = ls := by rw [hsucc]; exact if_pos hz
        clear hsucc
        have ks := keep hs
        have hz' : nth p k = 0 := by omega
        clear hs hz
        repeat' (first | (with_reducible first | refine awp_seq ?_ | refine awp_blockS ?_ | refine awp_blockC ?_ | refine awp_blockR ?_ | refine awp_skip ?_ | refine awp_ret ?_ | refine awp_exit ?_ | refine awp_region ?_ | refine awp_condM ?_ | refine And.intro ?_ ?_ | apply gQ_merge | apply gE_merge | exact EqV_w | exact EqE_w | exact EqV_ptr | exact EqE_ptr | exact EqV_msl | exact EqE_msl | exact EqV_agg | exact EqE_agg | exact EqV_fn | exact EqE_fn | exact EqV_gd | exact EqE_gd | refine gM_splitN ?_ ?_ | refine gM_split ?_ ?_ |  refine condM_splitDN ?_ ?_ | refine condM_splitD ?_ ?_ | refine condM_splitN ?_ ?_ | refine condM_split ?_ ?_ | refine condM_any ?_ ?_ | intro _) | (simp [*, hz']))
        simp [RetA, resL]
        repeat' (first | (with_reducible first | refine awp_seq ?_ | refine awp_blockS ?_ | refine awp_blockC ?_ | refine awp_blockR ?_ | refine awp_skip ?_ | refine awp_ret ?_ | refine awp_exit ?_ | refine awp_region ?_ | refine awp_condM ?_ | refine And.intro ?_ ?_ | apply gQ_merge | apply gE_merge | exact EqV_w | exact EqE_w | exact EqV_ptr | exact EqE_ptr | exact EqV_msl | exact EqE_msl | exact EqV_agg | exact EqE_agg | exact EqV_fn | exact EqE_fn | exact EqV_gd | exact EqE_gd | refine gM_splitN ?_ ?_ | refine gM_split ?_ ?_ |  refine condM_splitDN ?_ ?_ | refine condM_splitD ?_ ?_ | refine condM_splitN ?_ ?_ | refine condM_split ?_ ?_ | refine condM_any ?_ ?_ | intro _) | (simp [*]))
        all_goals try exact inI64 (by omega) (by omega)
        all_goals (refine loopK_normal _ _ _ _ _ (k + 1) _ ?_ (by first | omega | (dsimp only; omega) | (simp; omega)) ?_; (· omega); (refine le_gen [] ?_ ?_ <;> first | trivial | (simp [*, (show addK r p b2 (k + 1) = _ from ks)]; done)))
      · have hs : addK r p b2 (k + 1) = ls ++ [⟨nth (three r) k, -(nth p k)⟩] := by rw [hsucc]; exact if_neg hz
        clear hsucc
        have ks := keep hs
        clear hs
        generalize -(nth p k) = x at *
        repeat' (first | (with_reducible first | refine awp_seq ?_ | refine awp_blockS ?_ | refine awp_blockC ?_ | refine awp_blockR ?_ | refine awp_skip ?_ | refine awp_ret ?_ | refine awp_exit ?_ | refine awp_region ?_ | refine awp_condM ?_ | refine And.intro ?_ ?_ | apply gQ_merge | apply gE_merge | exact EqV_w | exact EqE_w | exact EqV_ptr | exact EqE_ptr | exact EqV_msl | exact EqE_msl | exact EqV_agg | exact EqE_agg | exact EqV_fn | exact EqE_fn | exact EqV_gd | exact EqE_gd | refine gM_splitN ?_ ?_ | refine gM_split ?_ ?_ |  refine condM_splitDN ?_ ?_ | refine condM_splitD ?_ ?_ | refine condM_splitN ?_ ?_ | refine condM_split ?_ ?_ | refine condM_any ?_ ?_ | intro _) | (simp [*, hz]))
        all_goals try omega
        simp [RetA, resL]
        repeat' (first | (with_reducible first | refine awp_seq ?_ | refine awp_blockS ?_ | refine awp_blockC ?_ | refine awp_blockR ?_ | refine awp_skip ?_ | refine awp_ret ?_ | refine awp_exit ?_ | refine awp_region ?_ | refine awp_condM ?_ | refine And.intro ?_ ?_ | apply gQ_merge | apply gE_merge | exact EqV_w | exact EqE_w | exact EqV_ptr | exact EqE_ptr | exact EqV_msl | exact EqE_msl | exact EqV_agg | exact EqE_agg | exact EqV_fn | exact EqE_fn | exact EqV_gd | exact EqE_gd | refine gM_splitN ?_ ?_ | refine gM_split ?_ ?_ |  refine condM_splitDN ?_ ?_ | refine condM_splitD ?_ ?_ | refine condM_splitN ?_ ?_ | refine condM_split ?_ ?_ | refine condM_any ?_ ?_ | intro _) | (simp [*]))
        all_goals try exact inI64 (by omega) (by omega)
        all_goals (refine loopK_normal _ _ _ _ _ (k + 1) _ ?_ (by first | omega | (dsimp only; omega) | (simp; omega)) ?_; (· omega); (refine le_gen [] ?_ ?_ <;> first | trivial | (simp [*, (show addK r p b2 (k + 1) = _ from ks), Nat.add_mul]; done)))
    · have hke : k = 3 := by omega
      subst hke
      repeat' (first | (with_reducible first | refine awp_seq ?_ | refine awp_blockS ?_ | refine awp_blockC ?_ | refine awp_blockR ?_ | refine awp_skip ?_ | refine awp_ret ?_ | refine awp_exit ?_ | refine awp_region ?_ | refine awp_condM ?_ | refine And.intro ?_ ?_ | apply gQ_merge | apply gE_merge | exact EqV_w | exact EqE_w | exact EqV_ptr | exact EqE_ptr | exact EqV_msl | exact EqE_msl | exact EqV_agg | exact EqE_agg | exact EqV_fn | exact EqE_fn | exact EqV_gd | exact EqE_gd | refine gM_splitN ?_ ?_ | refine gM_split ?_ ?_ |  refine condM_splitDN ?_ ?_ | refine condM_splitD ?_ ?_ | refine condM_splitN ?_ ?_ | refine condM_split ?_ ?_ | refine condM_any ?_ ?_ | intro _) | (simp [*]))
      all_goals (refine finW_intro () ?_ ?_; (· trivial); (refine le_gen [] ?_ ?_ <;> first | trivial | (simp [*]; done)))
  have h5 := hkl 3
  clear hkl hpb
  generalize addK r p b2 3 = ls at *
  repeat' (first | (with_reducible first | refine awp_regionJ (id := 9) 5 Tryz.func56 (by kernel_rfl) rfl (by decide) rfl ?_ | refine awp_seq ?_ | refine awp_blockS ?_ | refine awp_blockC ?_ | refine awp_blockR ?_ | refine awp_skip ?_ | refine awp_ret ?_ | refine awp_exit ?_ | refine awp_region ?_ | refine awp_condM ?_ | refine And.intro ?_ ?_ | apply gQ_merge | apply gE_merge | exact EqV_w | exact EqE_w | exact EqV_ptr | exact EqE_ptr | exact EqV_msl | exact EqE_msl | exact EqV_agg | exact EqE_agg | exact EqV_fn | exact EqE_fn | exact EqV_gd | exact EqE_gd | refine gM_splitN ?_ ?_ | refine gM_split ?_ ?_ |  refine condM_splitDN ?_ ?_ | refine condM_splitD ?_ ?_ | refine condM_splitN ?_ ?_ | refine condM_split ?_ ?_ | refine condM_any ?_ ?_ | intro _) | (simp [*]))
  all_goals try exact inI64 (by omega) (by omega)
  refine inlM_intro (Nat.le_of_ble_eq_true (by kernel_rfl)) (by simp) rfl ?_
  have cl := (show RealCall _ _ _ _ false from kcl)
  clear kcl
  unfold cEntry at *
  dsimp only at *
  by_cases hz : -tt = 0
  · have hs : addL ls r.driver (-tt) = ls := if_pos hz
    rw [hs] at cl ⊢
    have hz' : tt = 0 := by omega
    clear hs hz
    repeat' (first | (with_reducible first | refine awp_seq ?_ | refine awp_blockS ?_ | refine awp_blockC ?_ | refine awp_blockR ?_ | refine awp_skip ?_ | refine awp_ret ?_ | refine awp_exit ?_ | refine awp_region ?_ | refine awp_condM ?_ | refine And.intro ?_ ?_ | apply gQ_merge | apply gE_merge | exact EqV_w | exact EqE_w | exact EqV_ptr | exact EqE_ptr | exact EqV_msl | exact EqE_msl | exact EqV_agg | exact EqE_agg | exact EqV_fn | exact EqE_fn | exact EqV_gd | exact EqE_gd | refine gM_splitN ?_ ?_ | refine gM_split ?_ ?_ |  refine condM_splitDN ?_ ?_ | refine condM_splitD ?_ ?_ | refine condM_splitN ?_ ?_ | refine condM_split ?_ ?_ | refine condM_any ?_ ?_ | intro _) | (simp [*, hz']))
    simp [RetA, resL]
    by_cases he : ls.length = 0
    · have hls : ls = [] := List.eq_nil_of_length_eq_zero he
      subst hls
      repeat' (first | (with_reducible first | refine awp_seq ?_ | refine awp_blockS ?_ | refine awp_blockC ?_ | refine awp_blockR ?_ | refine awp_skip ?_ | refine awp_ret ?_ | refine awp_exit ?_ | refine awp_region ?_ | refine awp_regionD (id := 1) 26 mixed (by decide +kernel) ?_ | refine awp_condM ?_ | refine And.intro ?_ ?_ | apply gQ_merge | apply gE_merge | exact EqV_w | exact EqE_w | exact EqV_ptr | exact EqE_ptr | exact EqV_msl | exact EqE_msl | exact EqV_agg | exact EqE_agg | exact EqV_fn | exact EqE_fn | exact EqV_gd | exact EqE_gd | refine gM_splitN ?_ ?_ | refine gM_split ?_ ?_ |  refine condM_splitDN ?_ ?_ | refine condM_splitD ?_ ?_ | refine condM_splitN ?_ ?_ | refine condM_split ?_ ?_ | refine condM_any ?_ ?_ | refine cw (cl) ?_ | intro _) | (simp [*, repl]) | (refine cw_eq (cl) ?_ ?_; (· (simp [*]; done))))
      all_goals rfl
    · have hnil : ¬ ls = [] := fun e => he (by rw [e]; rfl)
      repeat' (first | (with_reducible first | refine awp_join (x := .region 6 _ _) (fun _ : Unit => True) 9 [6, 9, 7] (fun _ => [(57, .w false false (.bool false))]) (fun _ => [(2, [.w false false (.int .i64 0), .w false false (.str ByteArray.empty), .w true true (.sl 0 [])]), (5, [.w false false (.int .i64 td), .w false false (.str tn), .w true false (.sl ls.length (cLines ls))])]) ?_ (fun _ _ => ?_) | refine awp_seq ?_ | refine awp_blockS ?_ | refine awp_blockC ?_ | refine awp_blockR ?_ | refine awp_skip ?_ | refine awp_ret ?_ | refine awp_exit ?_ | refine awp_region ?_ | refine awp_regionD (id := 1) 26 mixed (by decide +kernel) ?_ | refine awp_condM ?_ | refine And.intro ?_ ?_ | apply gQ_merge | apply gE_merge | exact EqV_w | exact EqE_w | exact EqV_ptr | exact EqE_ptr | exact EqV_msl | exact EqE_msl | exact EqV_agg | exact EqE_agg | exact EqV_fn | exact EqE_fn | exact EqV_gd | exact EqE_gd | refine gM_splitN ?_ ?_ | refine gM_split ?_ ?_ |  refine condM_splitDN ?_ ?_ | refine condM_splitD ?_ ?_ | refine condM_splitN ?_ ?_ | refine condM_split ?_ ?_ | refine condM_any ?_ ?_ | refine cw (cl) ?_ | intro _) | (simp [*, hnil, repl]) | (refine cw_eq (cl) ?_ ?_; (· (simp [*]; done))))
      all_goals (refine finW_intro () ?_ ?_; (· trivial); (refine le_gen [8] ?_ ?_ <;> first | trivial | (simp [*]; done)))
  · have hs : addL ls r.driver (-tt) = ls ++ [⟨r.driver, -tt⟩] := if_neg hz
    rw [hs] at cl ⊢
    clear hs
    generalize -tt = x at *
    have ela : lA ls ++ [.w false false (.str r.driver), .w false false (.int .i64 x)] = lA (ls ++ [⟨r.driver, x⟩]) := lA_snoc _ _ _
    have elen : (ls ++ [(⟨r.driver, x⟩ : Line)]).length = ls.length + 1 := by simp
    have hnil : ¬ ls ++ [(⟨r.driver, x⟩ : Line)] = [] := by simp
    generalize hls : ls ++ [(⟨r.driver, x⟩ : Line)] = l2 at *
    rw [elen] at cl
    repeat' (first | (with_reducible first | refine awp_seq ?_ | refine awp_blockS ?_ | refine awp_blockC ?_ | refine awp_blockR ?_ | refine awp_skip ?_ | refine awp_ret ?_ | refine awp_exit ?_ | refine awp_region ?_ | refine awp_condM ?_ | refine And.intro ?_ ?_ | apply gQ_merge | apply gE_merge | exact EqV_w | exact EqE_w | exact EqV_ptr | exact EqE_ptr | exact EqV_msl | exact EqE_msl | exact EqV_agg | exact EqE_agg | exact EqV_fn | exact EqE_fn | exact EqV_gd | exact EqE_gd | refine gM_splitN ?_ ?_ | refine gM_split ?_ ?_ |  refine condM_splitDN ?_ ?_ | refine condM_splitD ?_ ?_ | refine condM_splitN ?_ ?_ | refine condM_split ?_ ?_ | refine condM_any ?_ ?_ | intro _) | (simp [*, hz]))
    all_goals try omega
    simp [RetA, resL]
    have hne : ¬ (ls.length : Int) + 1 = 0 := by omega
    have hne2 : ¬ ls.length + 1 = 0 := by omega
    repeat' (first | (with_reducible first | refine awp_join (x := .region 6 _ _) (fun _ : Unit => True) 9 [6, 9, 7] (fun _ => [(57, .w false false (.bool false))]) (fun _ => [(2, [.w false false (.int .i64 0), .w false false (.str ByteArray.empty), .w true true (.sl 0 [])]), (5, [.w false false (.int .i64 td), .w false false (.str tn), .w true false (.sl (ls.length + 1) (cLines l2))])]) ?_ (fun _ _ => ?_) | refine awp_seq ?_ | refine awp_blockS ?_ | refine awp_blockC ?_ | refine awp_blockR ?_ | refine awp_skip ?_ | refine awp_ret ?_ | refine awp_exit ?_ | refine awp_region ?_ | refine awp_regionD (id := 1) 26 mixed (by decide +kernel) ?_ | refine awp_condM ?_ | refine And.intro ?_ ?_ | apply gQ_merge | apply gE_merge | exact EqV_w | exact EqE_w | exact EqV_ptr | exact EqE_ptr | exact EqV_msl | exact EqE_msl | exact EqV_agg | exact EqE_agg | exact EqV_fn | exact EqE_fn | exact EqV_gd | exact EqE_gd | refine gM_splitN ?_ ?_ | refine gM_split ?_ ?_ |  refine condM_splitDN ?_ ?_ | refine condM_splitD ?_ ?_ | refine condM_splitN ?_ ?_ | refine condM_split ?_ ?_ | refine condM_any ?_ ?_ | refine cw (cl) ?_ | intro _) | (simp [*, hne, hne2, hnil, ela, Nat.add_mul, elen, repl]) | (refine cw_eq (cl) ?_ ?_; (· (simp [*]; done))))
    all_goals (refine finW_intro () ?_ ?_; (· trivial); (refine le_gen [8] ?_ ?_ <;> first | trivial | (simp [*, elen, Nat.add_mul]; done)))
end Go.Proofs.YtlcimflkjfbaoaaGreat
namespace Go.Proofs.YtlcimflkjfbaoaaGreat
open Go Go.Fi
set_option maxRecDepth 20000

/-! ### entries that are not too large -/
theorem indexFuncL_c (l : List Line) (hl : l.length < 100000) (g : FuncId) (caps : List PV) (p : Line → Bool) (h : ∀ x, RealCall Tryz.prog g (.agg (cLine x) :: caps) (.bool (p x)) true) :
    RealCall Tryz.prog 84 [.sl l.length (cLines l), .fn g caps] (.int .i64 (idxOf p l)) true := by
  generalize hR : idxOf p l = R
  have kR : Keep (idxF p l 0 = R) := keep hR
  clear hR
  refine realcall_intro Tryz.func84 (by kernel_rfl) rfl (Nat.le_of_ble_eq_true (by kernel_rfl)) ?_
  simp only [Tryz.results84, Tryz.ntmps84]
  repeat' (first | (with_reducible first | refine awp_seq ?_ | refine awp_blockS ?_ | refine awp_blockC ?_ | refine awp_blockR ?_ | refine awp_skip ?_ | refine awp_ret ?_ | refine awp_exit ?_ | refine awp_region ?_ | refine awp_condM ?_ | refine And.intro ?_ ?_ | apply gQ_merge | apply gE_merge | exact EqV_w | exact EqE_w | exact EqV_ptr | exact EqE_ptr | exact EqV_msl | exact EqE_msl | exact EqV_agg | exact EqE_agg | exact EqV_fn | exact EqE_fn | exact EqV_gd | exact EqE_gd | refine gM_splitN ?_ ?_ | refine gM_split ?_ ?_ |  refine condM_splitDN ?_ ?_ | refine condM_splitD ?_ ?_ | refine condM_splitN ?_ ?_ | refine condM_split ?_ ?_ | refine condM_any ?_ ?_ | intro _) | (simp [*]))
  refine awp_for3 (fun (k : Nat) => k ≤ l.length ∧ idxF p (l.drop k) k = R) [0, 1, 7] (fun (k : Nat) => [(8, .w false false (.int .i64 k))]) [] (fun (k : Nat) => []) (fun (k : Nat) => l.length - k) (fun (_u : Unit) => R = -1) [] (fun (_u : Unit) => []) [] (fun (_u : Unit) => []) (0) ⟨Nat.zero_le _, kR⟩ (by simp) (by simp) (fun k hk => ?_) (fun _u hf => ?_)
  · obtain ⟨hk, hj⟩ := hk
    by_cases hlt : k < l.length
    · have c1 := h (nth l k)
      have hj' := hj
      rw [drop_nth l k hlt] at hj'
      unfold idxF at hj'
      have kj := keep hj'
      clear hj hj' h
      repeat' (first | (with_reducible first | refine awp_seq ?_ | refine awp_blockS ?_ | refine awp_blockC ?_ | refine awp_blockR ?_ | refine awp_skip ?_ | refine awp_ret ?_ | refine awp_exit ?_ | refine awp_region ?_ | refine awp_condM ?_ | refine And.intro ?_ ?_ | apply gQ_merge | apply gE_merge | exact EqV_w | exact EqE_w | exact EqV_ptr | exact EqE_ptr | exact EqV_msl | exact EqE_msl | exact EqV_agg | exact EqE_agg | exact EqV_fn | exact EqE_fn | exact EqV_gd | exact EqE_gd | refine gM_splitN ?_ ?_ | refine gM_split ?_ ?_ |  refine condM_splitDN ?_ ?_ | refine condM_splitD ?_ ?_ | refine condM_splitN ?_ ?_ | refine condM_split ?_ ?_ | refine condM_any ?_ ?_ | refine cw (c1) ?_ | intro _) | (simp [*, hlt]) | (refine cw_eq (c1) ?_ ?_; (· (simp [*]; done))))
      all_goals first
        | exact inI64 (by omega) (by omega)
        | omega
        | (rename_i hp; rw [if_pos hp] at kj; exact kj)
        | (rename_i hp; rw [if_neg (by rw [hp]; decide)] at kj; (refine loopK_normal _ _ _ _ _ (k + 1) _ ?_ (by first | omega | (dsimp only; omega) | (simp; omega)) ?_; (· exact ⟨by omega, kj⟩); (refine le_of ?_ ?_ <;> first | trivial | (simp [*]; done))))
        | skip
    · have hke : k = l.length := by omega
      subst hke
      repeat' (first | (with_reducible first | refine awp_seq ?_ | refine awp_blockS ?_ | refine awp_blockC ?_ | refine awp_blockR ?_ | refine awp_skip ?_ | refine awp_ret ?_ | refine awp_exit ?_ | refine awp_region ?_ | refine awp_condM ?_ | refine And.intro ?_ ?_ | apply gQ_merge | apply gE_merge | exact EqV_w | exact EqE_w | exact EqV_ptr | exact EqE_ptr | exact EqV_msl | exact EqE_msl | exact EqV_agg | exact EqE_agg | exact EqV_fn | exact EqE_fn | exact EqV_gd | exact EqE_gd | refine gM_splitN ?_ ?_ | refine gM_split ?_ ?_ |  refine condM_splitDN ?_ ?_ | refine condM_splitD ?_ ?_ | refine condM_splitN ?_ ?_ | refine condM_split ?_ ?_ | refine condM_any ?_ ?_ | intro _) | (simp [*]))
      all_goals (refine finW_intro () ?_ ?_; (· rw [← hj, List.drop_length]; rfl); (refine le_of ?_ ?_ <;> first | trivial | (simp [*]; done)))
  · subst hf
    repeat' (first | (with_reducible first | refine awp_seq ?_ | refine awp_blockS ?_ | refine awp_blockC ?_ | refine awp_blockR ?_ | refine awp_skip ?_ | refine awp_ret ?_ | refine awp_exit ?_ | refine awp_region ?_ | refine awp_condM ?_ | refine And.intro ?_ ?_ | apply gQ_merge | apply gE_merge | exact EqV_w | exact EqE_w | exact EqV_ptr | exact EqE_ptr | exact EqV_msl | exact EqE_msl | exact EqV_agg | exact EqE_agg | exact EqV_fn | exact EqE_fn | exact EqV_gd | exact EqE_gd | refine gM_splitN ?_ ?_ | refine gM_split ?_ ?_ |  refine condM_splitDN ?_ ?_ | refine condM_splitD ?_ ?_ | refine condM_splitN ?_ ?_ | refine condM_split ?_ ?_ | refine condM_any ?_ ?_ | intro _) | (simp [*]))
theorem containsFuncL_c (l : List Line) (hl : l.length < 100000) (g : FuncId) (caps : List PV) (p : Line → Bool) (h : ∀ x, RealCall Tryz.prog g (.agg (cLine x) :: caps) (.bool (p x)) true) :
    RealCall Tryz.prog 57 [.sl l.length (cLines l), .fn g caps] (.bool (l.any p)) true := by
  have c1 := indexFuncL_c l hl g caps p h
  have h := idxOf_any p l
  generalize idxOf p l = i at *
  rw [← h]
  clear h
  refine realcall_intro Tryz.func57 (by kernel_rfl) rfl (Nat.le_of_ble_eq_true (by kernel_rfl)) ?_
  simp only [Tryz.results57, Tryz.ntmps57]
  repeat' (first | (with_reducible first | refine awp_seq ?_ | refine awp_blockS ?_ | refine awp_blockC ?_ | refine awp_blockR ?_ | refine awp_skip ?_ | refine awp_ret ?_ | refine awp_exit ?_ | refine awp_region ?_ | refine awp_condM ?_ | refine And.intro ?_ ?_ | apply gQ_merge | apply gE_merge | exact EqV_w | exact EqE_w | exact EqV_ptr | exact EqE_ptr | exact EqV_msl | exact EqE_msl | exact EqV_agg | exact EqE_agg | exact EqV_fn | exact EqE_fn | exact EqV_gd | exact EqE_gd | refine gM_splitN ?_ ?_ | refine gM_split ?_ ?_ |  refine condM_splitDN ?_ ?_ | refine condM_splitD ?_ ?_ | refine condM_splitN ?_ ?_ | refine condM_split ?_ ?_ | refine condM_any ?_ ?_ | refine cw (c1) ?_ | intro _) | (simp [*]) | (refine cw_eq (c1) ?_ ?_; (· (simp [*]; done))))
def greatB (y : Line) : Bool := !smallB y.amt 1000000000
theorem la1_c (y : Line) : RealCall Tryz.prog 58 [.agg (cLine y)] (.bool (greatB y)) true := by
  have c1 := small_c y.amt 1000000000 (by decide) (by decide)
  unfold greatB cLine
  refine realcall_intro Tryz.func58 (by kernel_rfl) rfl (Nat.le_of_ble_eq_true (by kernel_rfl)) ?_
  simp only [Tryz.results58, Tryz.ntmps58]
  repeat' (first | (with_reducible first | refine awp_seq ?_ | refine awp_blockS ?_ | refine awp_blockC ?_ | refine awp_blockR ?_ | refine awp_skip ?_ | refine awp_ret ?_ | refine awp_exit ?_ | refine awp_region ?_ | refine awp_condM ?_ | refine And.intro ?_ ?_ | apply gQ_merge | apply gE_merge | exact EqV_w | exact EqE_w | exact EqV_ptr | exact EqE_ptr | exact EqV_msl | exact EqE_msl | exact EqV_agg | exact EqE_agg | exact EqV_fn | exact EqE_fn | exact EqV_gd | exact EqE_gd | refine gM_splitN ?_ ?_ | refine gM_split ?_ ?_ |  refine condM_splitDN ?_ ?_ | refine condM_splitD ?_ ?_ | refine condM_splitN ?_ ?_ | refine condM_split ?_ ?_ | refine condM_any ?_ ?_ | refine cw (c1) ?_ | intro _) | (simp [*]) | (refine cw_eq (c1) ?_ ?_; (· (simp [*]; done))))
def noEntry : Entry := ⟨0, ⟨#[]⟩, []⟩
def muchB (e : Entry) : Bool := e.lines.any greatB || decide (12 < e.lines.length)
def largestS (e : Entry) : Entry × Int := if muchB e = true then (noEntry, 8) else (e, 0)
theorem largest_c (e : Entry) (hl : e.lines.length < 100000) : RealCall Tryz.prog 30 [.agg (cEntry e)] (.tup [.agg (cEntry (largestS e).1), .int .i64 (largestS e).2]) false := by
  have c1 := containsFuncL_c e.lines hl 58 [] greatB la1_c
  unfold largestS muchB
  cases hb : e.lines.any greatB with
  | true =>
    rw [hb] at c1
    rw [Bool.true_or, if_pos rfl]
    unfold cEntry noEntry
    refine realcall_intro Tryz.func30 (by kernel_rfl) rfl (Nat.le_of_ble_eq_true (by kernel_rfl)) ?_
    simp only [Tryz.results30, Tryz.ntmps30]
    repeat' (first | (with_reducible first | refine awp_seq ?_ | refine awp_blockS ?_ | refine awp_blockC ?_ | refine awp_blockR ?_ | refine awp_skip ?_ | refine awp_ret ?_ | refine awp_exit ?_ | refine awp_region ?_ | refine awp_condM ?_ | refine And.intro ?_ ?_ | apply gQ_merge | apply gE_merge | exact EqV_w | exact EqE_w | exact EqV_ptr | exact EqE_ptr | exact EqV_msl | exact EqE_msl | exact EqV_agg | exact EqE_agg | exact EqV_fn | exact EqE_fn | exact EqV_gd | exact EqE_gd | refine gM_splitN ?_ ?_ | refine gM_split ?_ ?_ |  refine condM_splitDN ?_ ?_ | refine condM_splitD ?_ ?_ | refine condM_splitN ?_ ?_ | refine condM_split ?_ ?_ | refine condM_any ?_ ?_ | refine cw (c1) ?_ | intro _) | (simp [*, repl]) | (refine cw_eq (c1) ?_ ?_; (· (simp [*]; done))))
    all_goals rfl
  | false =>
    rw [hb] at c1
    rw [Bool.false_or]
    by_cases h : 12 < e.lines.length
    · have hI : (12 : Int) < (e.lines.length : Int) := by omega
      rw [decide_eq_true h, if_pos rfl]
      unfold cEntry noEntry
      refine realcall_intro Tryz.func30 (by kernel_rfl) rfl (Nat.le_of_ble_eq_true (by kernel_rfl)) ?_
      simp only [Tryz.results30, Tryz.ntmps30]
      repeat' (first | (with_reducible first | refine awp_seq ?_ | refine awp_blockS ?_ | refine awp_blockC ?_ | refine awp_blockR ?_ | refine awp_skip ?_ | refine awp_ret ?_ | refine awp_exit ?_ | refine awp_region ?_ | refine awp_condM ?_ | refine And.intro ?_ ?_ | apply gQ_merge | apply gE_merge | exact EqV_w | exact EqE_w | exact EqV_ptr | exact EqE_ptr | exact EqV_msl | exact EqE_msl | exact EqV_agg | exact EqE_agg | exact EqV_fn | exact EqE_fn | exact EqV_gd | exact EqE_gd | refine gM_splitN ?_ ?_ | refine gM_split ?_ ?_ |  refine condM_splitDN ?_ ?_ | refine condM_splitD ?_ ?_ | refine condM_splitN ?_ ?_ | refine condM_split ?_ ?_ | refine condM_any ?_ ?_ | refine cw (c1) ?_ | intro _) | (simp [*, hI, repl]) | (refine cw_eq (c1) ?_ ?_; (· (simp [*]; done))))
      all_goals rfl
    · have hI : ¬ (12 : Int) < (e.lines.length : Int) := by omega
      rw [decide_eq_false h, if_neg (by decide)]
      unfold cEntry
      refine realcall_intro Tryz.func30 (by kernel_rfl) rfl (Nat.le_of_ble_eq_true (by kernel_rfl)) ?_
      simp only [Tryz.results30, Tryz.ntmps30]
      repeat' (first | (with_reducible first | refine awp_seq ?_ | refine awp_blockS ?_ | refine awp_blockC ?_ | refine awp_blockR ?_ | refine awp_skip ?_ | refine awp_ret ?_ | refine awp_exit ?_ | refine awp_region ?_ | refine awp_condM ?_ | refine And.intro ?_ ?_ | apply gQ_merge | apply gE_merge | exact EqV_w | exact EqE_w | exact EqV_ptr | exact EqE_ptr | exact EqV_msl | exact EqE_msl | exact EqV_agg | exact EqE_agg | exact EqV_fn | exact EqE_fn | exact EqV_gd | exact EqE_gd | refine gM_splitN ?_ ?_ | refine gM_split ?_ ?_ |  refine condM_splitDN ?_ ?_ | refine condM_splitD ?_ ?_ | refine condM_splitN ?_ ?_ | refine condM_split ?_ ?_ | refine condM_any ?_ ?_ | refine cw (c1) ?_ | intro _) | (simp [*, hI]) | (refine cw_eq (c1) ?_ ?_; (· (simp [*]; done))))
end Go.Proofs.YtlcimflkjfbaoaaGreat

