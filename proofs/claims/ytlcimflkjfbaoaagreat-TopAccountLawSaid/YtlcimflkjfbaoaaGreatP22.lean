/- Contracts of functions for this claim: lemmas alone. -/
import Derived.Test.YtlcimflkjfbaoaaGreatP3
set_option linter.unusedSimpArgs false
set_option linter.unusedVariables false
namespace Go.Proofs.YtlcimflkjfbaoaaGreat
open Go Go.Fi
set_option maxRecDepth 20000
attribute [-simp] cEntries_drop2

/-! ### books -/
def entE (l : List Acc) (last : Int) (e : Entry) : Int := firstS [(entryS l e).2, errUnless (decide (last ≤ e.date)) 9]
def bookF (l : List Acc) (closed : Int) : List Entry → Nat → Int → Int × Int
  | [], _, _ => (0, errUnless (winB closed 0 4000) 2)
  | e :: r, i, last => if entE l last e = 0 then bookF l closed r (i + 1) e.date else ((i : Int), entE l last e)
def bookH (b : Book) : Int := firstS [(accsS b.accs).2, errUnless (decide ((b.entries.length : Int) ≤ 100)) 8]
def bookS (b : Book) : Int × Int := if bookH b = 0 then bookF b.accs b.closed b.entries 0 0 else (0, bookH b)
structure BookIn (b : Book) : Prop where
  accs : AccsIn b.accs
  len : b.entries.length < 10000
  ent : ∀ k, k < b.entries.length → EntryIn (nth b.entries k)
def lastD (l : List Entry) : Nat → Int
  | 0 => 0
  | k + 1 => (nth l k).date
@[simp] theorem lastD_zero (l : List Entry) : lastD l 0 = 0 := rfl
theorem bookF_bad (a : List Acc) (c : Int) (l : List Entry) (k : Nat) (s : Int) (h : k < l.length) (hb : entE a s (nth l k) ≠ 0) : bookF a c (l.drop k) k s = ((k : Int), entE a s (nth l k)) := by
  rw [drop_nth l k h]; simp only [bookF]; rw [if_neg hb]
theorem bookF_ok (a : List Acc) (c : Int) (l : List Entry) (k : Nat) (s : Int) (h : k < l.length) (hb : entE a s (nth l k) = 0) : bookF a c (l.drop k) k s = bookF a c (l.drop (k + 1)) (k + 1) (nth l k).date := by
  rw [drop_nth l k h]; simp only [bookF]; rw [if_pos hb]
theorem bookF_end (a : List Acc) (c : Int) (l : List Entry) (k : Nat) (s : Int) (h : l.length ≤ k) : bookF a c (l.drop k) k s = (0, errUnless (winB c 0 4000) 2) := by
  rw [List.drop_eq_nil_of_le h]; rfl
theorem bookH_zero {b : Book} (h : bookH b = 0) : (accsS b.accs).2 = 0 ∧ b.entries.length ≤ 100 := by
  have hz := firstS_zero h
  have h1 := of_decide_eq_true (unless_zero (hz (errUnless (decide ((b.entries.length : Int) ≤ 100)) 8) (by simp)) (by decide))
  exact ⟨hz (accsS b.accs).2 (by simp), by omega⟩
set_option maxHeartbeats 4000000 in
theorem checkBook_c (b : Book) (hb : BookIn b) : RealCall Tryz.prog 59 [.agg (cBook b)] (pairI (bookS b)) true := by
  have c1 := accountsErr_c b.accs hb.accs
  have hal := hb.accs.len
  have hlen := hb.len
  have hent := hb.ent
  clear hb
  have c2 := first2_c (accsS b.accs).2 (errUnless (decide ((b.entries.length : Int) ≤ 100)) 8)
  change RealCall _ _ _ (.int .i64 (bookH b)) true at c2
  unfold bookS pairI
  by_cases h : bookH b = 0
  · obtain ⟨_, h100⟩ := bookH_zero h
    rw [if_pos h]
    rw [h] at c2
    clear h
    obtain ⟨ba, be, bc⟩ := b
    unfold cBook
    dsimp only at *
    generalize (accsS ba).2 = AE at *
    generalize hR : bookF ba bc be 0 0 = R
    have kR : Keep (bookF ba bc be 0 0 = R) := keep hR
    clear hR
    obtain ⟨r1, r2⟩ := R
    have kent := keep hent
    clear hent
    refine realcall_intro Tryz.func59 (by kernel_rfl) rfl (Nat.le_of_ble_eq_true (by kernel_rfl)) ?_
    simp only [Tryz.results59, Tryz.ntmps59]
    repeat' (first | (with_reducible first | refine awp_seq ?_ | refine awp_blockS ?_ | refine awp_blockC ?_ | refine awp_blockR ?_ | refine awp_skip ?_ | refine awp_ret ?_ | refine awp_exit ?_ | refine awp_region ?_ | refine awp_regionD (id := 1) 11 mixed (by decide +kernel) ?_ | refine awp_condM ?_ | refine And.intro ?_ ?_ | apply gQ_merge | apply gE_merge | exact EqV_w | exact EqE_w | exact EqV_ptr | exact EqE_ptr | exact EqV_msl | exact EqE_msl | exact EqV_agg | exact EqE_agg | exact EqV_fn | exact EqE_fn | exact EqV_gd | exact EqE_gd | refine gM_splitN ?_ ?_ | refine gM_split ?_ ?_ |  refine condM_splitDN ?_ ?_ | refine condM_splitD ?_ ?_ | refine condM_splitN ?_ ?_ | refine condM_split ?_ ?_ | refine condM_any ?_ ?_ | refine cw (c1) ?_ | refine cw (c2) ?_ | refine cw (unless_c _ _) ?_ | intro _) | (simp [*]) | (refine cw_eq (c1) ?_ ?_; (· (simp [*]; done))) | (refine cw_eq (c2) ?_ ?_; (· (simp [*]; done))) | (refine cw_eq (unless_c _ _) ?_ ?_; (· (simp [*]; done))))
    refine awp_for3 (fun (k : Nat) => k ≤ be.length ∧ bookF ba bc (be.drop k) k (lastD be k) = (r1, r2)) [1, 24, 25] (fun (k : Nat) => [(26, .w false false (.int .i64 k)), (5, .w false false (.int .i64 (lastD be k)))]) [0] (fun (k : Nat) => []) (fun (k : Nat) => be.length - k) (fun (_u : Unit) => r1 = 0 ∧ r2 = errUnless (winB bc 0 4000) 2) [1] (fun (_u : Unit) => []) [0] (fun (_u : Unit) => []) (0) ⟨Nat.zero_le _, kR⟩ (by simp) (by simp) (fun k hk => ?_) (fun _u hf => ?_)
    · obtain ⟨hk, hj⟩ := hk
      clear kR c1 c2
      by_cases hlt : k < be.length
      · have he := (show ∀ k, k < be.length → EntryIn (nth be k) from kent) k hlt
        have c3 := entry_c ba (by omega) (nth be k) he
        unfold pairI at c3
        have c4 := first2_c (entryS ba (nth be k)).2 (errUnless (decide (lastD be k ≤ (nth be k).date)) 9)
        change RealCall _ _ _ (.int .i64 (entE ba (lastD be k) (nth be k))) true at c4
        have ks : Keep (lastD be (k + 1) = (nth be k).date) := keep rfl
        clear kent he
        generalize lastD be k = last at *
        by_cases hE : entE ba last (nth be k) = 0
        · rw [bookF_ok ba bc be k last hlt hE] at hj
          have kj := keep hj
          clear hj
          rw [hE] at c4
          clear hE
          generalize entryS ba (nth be k) = q at *
          unfold cEntry at *
          repeat' (first | (with_reducible first | refine awp_seq ?_ | refine awp_blockS ?_ | refine awp_blockC ?_ | refine awp_blockR ?_ | refine awp_skip ?_ | refine awp_ret ?_ | refine awp_exit ?_ | refine awp_region ?_ | refine awp_regionD (id := 1) 11 mixed (by decide +kernel) ?_ | refine awp_condM ?_ | refine And.intro ?_ ?_ | apply gQ_merge | apply gE_merge | exact EqV_w | exact EqE_w | exact EqV_ptr | exact EqE_ptr | exact EqV_msl | exact EqE_msl | exact EqV_agg | exact EqE_agg | exact EqV_fn | exact EqE_fn | exact EqV_gd | exact EqE_gd | refine gM_splitN ?_ ?_ | refine gM_split ?_ ?_ |  refine condM_splitDN ?_ ?_ | refine condM_splitD ?_ ?_ | refine condM_splitN ?_ ?_ | refine condM_split ?_ ?_ | refine condM_any ?_ ?_ | refine cw (c3) ?_ | refine cw (c4) ?_ | refine cw (unless_c _ _) ?_ | intro _) | (simp [*, hlt, cEntry]) | (refine cw_eq (c3) ?_ ?_; (· (simp [*]; done))) | (refine cw_eq (c4) ?_ ?_; (· (simp [*]; done))) | (refine cw_eq (unless_c _ _) ?_ ?_; (· (simp [*]; done))))
          all_goals first
            | exact inI64 (by omega) (by omega)
            | omega
            | (refine loopK_normal _ _ _ _ _ (k + 1) _ ?_ (by first | omega | (dsimp only; omega) | (simp; omega)) ?_; (· exact ⟨by omega, kj⟩); (refine le_of ?_ ?_ <;> first | trivial | (simp [*, (show lastD be (k + 1) = _ from ks)]; done)))
            | skip
        · rw [bookF_bad ba bc be k last hlt hE] at hj
          injection hj with hj1 hj2
          subst hj1
          rw [hj2] at c4 hE
          clear hj2
          generalize entryS ba (nth be k) = q at *
          unfold cEntry at *
          repeat' (first | (with_reducible first | refine awp_seq ?_ | refine awp_blockS ?_ | refine awp_blockC ?_ | refine awp_blockR ?_ | refine awp_skip ?_ | refine awp_ret ?_ | refine awp_exit ?_ | refine awp_region ?_ | refine awp_regionD (id := 1) 11 mixed (by decide +kernel) ?_ | refine awp_condM ?_ | refine And.intro ?_ ?_ | apply gQ_merge | apply gE_merge | exact EqV_w | exact EqE_w | exact EqV_ptr | exact EqE_ptr | exact EqV_msl | exact EqE_msl | exact EqV_agg | exact EqE_agg | exact EqV_fn | exact EqE_fn | exact EqV_gd | exact EqE_gd | refine gM_splitN ?_ ?_ | refine gM_split ?_ ?_ |  refine condM_splitDN ?_ ?_ | refine condM_splitD ?_ ?_ | refine condM_splitN ?_ ?_ | refine condM_split ?_ ?_ | refine condM_any ?_ ?_ | refine cw (c3) ?_ | refine cw (c4) ?_ | refine cw (unless_c _ _) ?_ | intro _) | (simp [*, hlt, hE, cEntry]) | (refine cw_eq (c3) ?_ ?_; (· (simp [*]; done))) | (refine cw_eq (c4) ?_ ?_; (· (simp [*]; done))) | (refine cw_eq (unless_c _ _) ?_ ?_; (· (simp [*]; done))))
          all_goals first
            | exact inI64 (by omega) (by omega)
            | omega
            | skip
      · rw [bookF_end ba bc be k _ (by omega)] at hj
        injection hj with hj1 hj2
        have hke : k = be.length := by omega
        subst hke
        have kj := keep hj1
        have kj2 := keep hj2.symm
        clear hj1 hj2 kent
        repeat' (first | (with_reducible first | refine awp_seq ?_ | refine awp_blockS ?_ | refine awp_blockC ?_ | refine awp_blockR ?_ | refine awp_skip ?_ | refine awp_ret ?_ | refine awp_exit ?_ | refine awp_region ?_ | refine awp_regionD (id := 1) 11 mixed (by decide +kernel) ?_ | refine awp_condM ?_ | refine And.intro ?_ ?_ | apply gQ_merge | apply gE_merge | exact EqV_w | exact EqE_w | exact EqV_ptr | exact EqE_ptr | exact EqV_msl | exact EqE_msl | exact EqV_agg | exact EqE_agg | exact EqV_fn | exact EqE_fn | exact EqV_gd | exact EqE_gd | refine gM_splitN ?_ ?_ | refine gM_split ?_ ?_ |  refine condM_splitDN ?_ ?_ | refine condM_splitD ?_ ?_ | refine condM_splitN ?_ ?_ | refine condM_split ?_ ?_ | refine condM_any ?_ ?_ | intro _) | (simp [*]))
        all_goals (refine finW_intro () ?_ ?_; (· first | exact ⟨(show 0 = r1 from kj).symm, kj2⟩ | trivial); (refine le_of ?_ ?_ <;> first | trivial | (simp [*]; done)))
    · obtain ⟨rfl, rfl⟩ := hf
      clear kR kent
      repeat' (first | (with_reducible first | refine awp_seq ?_ | refine awp_blockS ?_ | refine awp_blockC ?_ | refine awp_blockR ?_ | refine awp_skip ?_ | refine awp_ret ?_ | refine awp_exit ?_ | refine awp_region ?_ | refine awp_regionD (id := 1) 11 mixed (by decide +kernel) ?_ | refine awp_condM ?_ | refine And.intro ?_ ?_ | apply gQ_merge | apply gE_merge | exact EqV_w | exact EqE_w | exact EqV_ptr | exact EqE_ptr | exact EqV_msl | exact EqE_msl | exact EqV_agg | exact EqE_agg | exact EqV_fn | exact EqE_fn | exact EqV_gd | exact EqE_gd | refine gM_splitN ?_ ?_ | refine gM_split ?_ ?_ |  refine condM_splitDN ?_ ?_ | refine condM_splitD ?_ ?_ | refine condM_splitN ?_ ?_ | refine condM_split ?_ ?_ | refine condM_any ?_ ?_ | refine cw (unless_c _ _) ?_ | refine cw (within_c _ _ _) ?_ | intro _) | (simp [*]) | (refine cw_eq (unless_c _ _) ?_ ?_; (· (simp [*]; done))) | (refine cw_eq (within_c _ _ _) ?_ ?_; (· (simp [*]; done))))
  · rw [if_neg h]
    obtain ⟨ba, be, bc⟩ := b
    unfold cBook
    dsimp only at *
    generalize (accsS ba).2 = AE at *
    generalize bookH ⟨ba, be, bc⟩ = H at *
    clear hent
    refine realcall_intro Tryz.func59 (by kernel_rfl) rfl (Nat.le_of_ble_eq_true (by kernel_rfl)) ?_
    simp only [Tryz.results59, Tryz.ntmps59]
    repeat' (first | (with_reducible first | refine awp_seq ?_ | refine awp_blockS ?_ | refine awp_blockC ?_ | refine awp_blockR ?_ | refine awp_skip ?_ | refine awp_ret ?_ | refine awp_exit ?_ | refine awp_region ?_ | refine awp_regionD (id := 1) 11 mixed (by decide +kernel) ?_ | refine awp_condM ?_ | refine And.intro ?_ ?_ | apply gQ_merge | apply gE_merge | exact EqV_w | exact EqE_w | exact EqV_ptr | exact EqE_ptr | exact EqV_msl | exact EqE_msl | exact EqV_agg | exact EqE_agg | exact EqV_fn | exact EqE_fn | exact EqV_gd | exact EqE_gd | refine gM_splitN ?_ ?_ | refine gM_split ?_ ?_ |  refine condM_splitDN ?_ ?_ | refine condM_splitD ?_ ?_ | refine condM_splitN ?_ ?_ | refine condM_split ?_ ?_ | refine condM_any ?_ ?_ | refine cw (c1) ?_ | refine cw (c2) ?_ | refine cw (unless_c _ _) ?_ | intro _) | (simp [*, h]) | (refine cw_eq (c1) ?_ ?_; (· (simp [*]; done))) | (refine cw_eq (c2) ?_ ?_; (· (simp [*]; done))) | (refine cw_eq (unless_c _ _) ?_ ?_; (· (simp [*]; done))))
end Go.Proofs.YtlcimflkjfbaoaaGreat
namespace Go.Proofs.YtlcimflkjfbaoaaGreat
open Go Go.Fi
set_option maxRecDepth 20000

/-! ### balances -/
def putS (n : ByteArray) : List Line → Int
  | [] => 0
  | y :: r => (if y.acc = n then y.amt else 0) + putS n r
@[simp] theorem putS_nil (n : ByteArray) : putS n [] = 0 := rfl
theorem putS_snoc (n : ByteArray) (y : Line) : ∀ l : List Line, putS n (l ++ [y]) = putS n l + (if y.acc = n then y.amt else 0)
  | [] => by simp [putS]
  | x :: l => by simp only [List.cons_append, putS, putS_snoc n y l]; omega
theorem putS_succ (n : ByteArray) (l : List Line) (k : Nat) (h : k < l.length) : putS n (l.take (k + 1)) = putS n (l.take k) + (if (nth l k).acc = n then (nth l k).amt else 0) := by
  rw [take_succ_nth l k h, putS_snoc]
def hasL (n : ByteArray) (l : List Line) : Bool := l.any fun y => decide (y.acc = n)
@[simp] theorem hasL_nil (n : ByteArray) : hasL n [] = false := rfl
theorem hasL_succ (n : ByteArray) (l : List Line) (k : Nat) (h : k < l.length) : hasL n (l.take (k + 1)) = (hasL n (l.take k) || decide ((nth l k).acc = n)) := by
  rw [take_succ_nth l k h]; simp [hasL]
structure LinesIn (l : List Line) : Prop where
  len : l.length < 100000
  amt : ∀ k, k < l.length → -1000000000 ≤ (nth l k).amt ∧ (nth l k).amt ≤ 1000000000
theorem put_c (e : Entry) (n : ByteArray) (hl : LinesIn e.lines) : RealCall Tryz.prog 64 [.agg (cEntry e), .str n] (.tup [.int .i64 (putS n e.lines), .bool (hasL n e.lines)]) true := by
  obtain ⟨hlen, hamt⟩ := hl
  obtain ⟨ed, en, el⟩ := e
  unfold cEntry
  dsimp only at *
  have ka := keep hamt
  clear hamt
  refine realcall_intro Tryz.func64 (by kernel_rfl) rfl (Nat.le_of_ble_eq_true (by kernel_rfl)) ?_
  simp only [Tryz.results64, Tryz.ntmps64]
  repeat' (first | (with_reducible first | refine awp_seq ?_ | refine awp_blockS ?_ | refine awp_blockC ?_ | refine awp_blockR ?_ | refine awp_skip ?_ | refine awp_ret ?_ | refine awp_exit ?_ | refine awp_region ?_ | refine awp_condM ?_ | refine And.intro ?_ ?_ | apply gQ_merge | apply gE_merge | exact EqV_w | exact EqE_w | exact EqV_ptr | exact EqE_ptr | exact EqV_msl | exact EqE_msl | exact EqV_agg | exact EqE_agg | exact EqV_fn | exact EqE_fn | exact EqV_gd | exact EqE_gd | refine gM_splitN ?_ ?_ | refine gM_split ?_ ?_ |  refine condM_splitDN ?_ ?_ | refine condM_splitD ?_ ?_ | refine condM_splitN ?_ ?_ | refine condM_split ?_ ?_ | refine condM_any ?_ ?_ | intro _) | (simp [*]))
  refine awp_for3 (fun (k : Nat) => k ≤ el.length ∧ (-(1000000000 * (k : Int)) ≤ putS n (el.take k) ∧ putS n (el.take k) ≤ 1000000000 * (k : Int))) [1, 11, 12] (fun (k : Nat) => [(13, .w false false (.int .i64 k)), (6, .w false false (.int .i64 (putS n (el.take k)))), (7, .w false false (.bool (hasL n (el.take k))))]) [] (fun (k : Nat) => []) (fun (k : Nat) => el.length - k) (fun (_u : Unit) => True) [] (fun (_u : Unit) => [(6, .w false false (.int .i64 (putS n el))), (7, .w false false (.bool (hasL n el)))]) [] (fun (_u : Unit) => []) (0) ⟨Nat.zero_le _, by simp, by simp⟩ (by simp) (by simp) (fun k hk => ?_) (fun _u hf => ?_)
  · obtain ⟨hk, b1, b2⟩ := hk
    by_cases hlt : k < el.length
    · obtain ⟨a1, a2⟩ := (show ∀ k, k < el.length → -1000000000 ≤ (nth el k).amt ∧ (nth el k).amt ≤ 1000000000 from ka) k hlt
      have hs := putS_succ n el k hlt
      have hh := hasL_succ n el k hlt
      generalize hasL n (el.take k) = B at *
      generalize putS n (el.take k) = S at *
      by_cases hq : (nth el k).acc = n
      · rw [if_pos hq] at hs
        rw [decide_eq_true hq, Bool.or_true] at hh
        have ks := keep hs
        have kh := keep hh
        clear hs hh
        repeat' (first | (with_reducible first | refine awp_seq ?_ | refine awp_blockS ?_ | refine awp_blockC ?_ | refine awp_blockR ?_ | refine awp_skip ?_ | refine awp_ret ?_ | refine awp_exit ?_ | refine awp_region ?_ | refine awp_condM ?_ | refine And.intro ?_ ?_ | apply gQ_merge | apply gE_merge | exact EqV_w | exact EqE_w | exact EqV_ptr | exact EqE_ptr | exact EqV_msl | exact EqE_msl | exact EqV_agg | exact EqE_agg | exact EqV_fn | exact EqE_fn | exact EqV_gd | exact EqE_gd | refine gM_splitN ?_ ?_ | refine gM_split ?_ ?_ |  refine condM_splitDN ?_ ?_ | refine condM_splitD ?_ ?_ | refine condM_splitN ?_ ?_ | refine condM_split ?_ ?_ | refine condM_any ?_ ?_ | intro _) | (simp [*, hlt, hq, cLine]))
        all_goals first
          | exact inI64 (by omega) (by omega)
          | omega
          | (refine loopK_normal _ _ _ _ _ (k + 1) _ ?_ (by first | omega | (dsimp only; omega) | (simp; omega)) ?_; (· refine ⟨by omega, ?_, ?_⟩ <;> (rw [show putS n (el.take (k + 1)) = _ from ks]; omega)); (refine le_of ?_ ?_ <;> first | trivial | (simp [*, show putS n (el.take (k + 1)) = _ from ks, show hasL n (el.take (k + 1)) = _ from kh]; done)))
          | skip
      · rw [if_neg hq, Int.add_zero] at hs
        rw [decide_eq_false hq, Bool.or_false] at hh
        have ks := keep hs
        have kh := keep hh
        clear hs hh
        repeat' (first | (with_reducible first | refine awp_seq ?_ | refine awp_blockS ?_ | refine awp_blockC ?_ | refine awp_blockR ?_ | refine awp_skip ?_ | refine awp_ret ?_ | refine awp_exit ?_ | refine awp_region ?_ | refine awp_condM ?_ | refine And.intro ?_ ?_ | apply gQ_merge | apply gE_merge | exact EqV_w | exact EqE_w | exact EqV_ptr | exact EqE_ptr | exact EqV_msl | exact EqE_msl | exact EqV_agg | exact EqE_agg | exact EqV_fn | exact EqE_fn | exact EqV_gd | exact EqE_gd | refine gM_splitN ?_ ?_ | refine gM_split ?_ ?_ |  refine condM_splitDN ?_ ?_ | refine condM_splitD ?_ ?_ | refine condM_splitN ?_ ?_ | refine condM_split ?_ ?_ | refine condM_any ?_ ?_ | intro _) | (simp [*, hlt, hq, cLine]))
        all_goals first
          | exact inI64 (by omega) (by omega)
          | omega
          | (refine loopK_normal _ _ _ _ _ (k + 1) _ ?_ (by first | omega | (dsimp only; omega) | (simp; omega)) ?_; (· refine ⟨by omega, ?_, ?_⟩ <;> (rw [show putS n (el.take (k + 1)) = _ from ks]; omega)); (refine le_of ?_ ?_ <;> first | trivial | (simp [*, show putS n (el.take (k + 1)) = _ from ks, show hasL n (el.take (k + 1)) = _ from kh]; done)))
          | skip
    · have hke : k = el.length := by omega
      subst hke
      rw [List.take_length] at *
      repeat' (first | (with_reducible first | refine awp_seq ?_ | refine awp_blockS ?_ | refine awp_blockC ?_ | refine awp_blockR ?_ | refine awp_skip ?_ | refine awp_ret ?_ | refine awp_exit ?_ | refine awp_region ?_ | refine awp_condM ?_ | refine And.intro ?_ ?_ | apply gQ_merge | apply gE_merge | exact EqV_w | exact EqE_w | exact EqV_ptr | exact EqE_ptr | exact EqV_msl | exact EqE_msl | exact EqV_agg | exact EqE_agg | exact EqV_fn | exact EqE_fn | exact EqV_gd | exact EqE_gd | refine gM_splitN ?_ ?_ | refine gM_split ?_ ?_ |  refine condM_splitDN ?_ ?_ | refine condM_splitD ?_ ?_ | refine condM_splitN ?_ ?_ | refine condM_split ?_ ?_ | refine condM_any ?_ ?_ | intro _) | (simp [*]))
      all_goals (refine finW_intro () ?_ ?_; (· trivial); (refine le_of ?_ ?_ <;> first | trivial | (simp [*, List.take_length]; done)))
  · clear hf
    repeat' (first | (with_reducible first | refine awp_seq ?_ | refine awp_blockS ?_ | refine awp_blockC ?_ | refine awp_blockR ?_ | refine awp_skip ?_ | refine awp_ret ?_ | refine awp_exit ?_ | refine awp_region ?_ | refine awp_condM ?_ | refine And.intro ?_ ?_ | apply gQ_merge | apply gE_merge | exact EqV_w | exact EqE_w | exact EqV_ptr | exact EqE_ptr | exact EqV_msl | exact EqE_msl | exact EqV_agg | exact EqE_agg | exact EqV_fn | exact EqE_fn | exact EqV_gd | exact EqE_gd | refine gM_splitN ?_ ?_ | refine gM_split ?_ ?_ |  refine condM_splitDN ?_ ?_ | refine condM_splitD ?_ ?_ | refine condM_splitN ?_ ?_ | refine condM_split ?_ ?_ | refine condM_any ?_ ?_ | intro _) | (simp [*]))
end Go.Proofs.YtlcimflkjfbaoaaGreat
namespace Go.Proofs.YtlcimflkjfbaoaaGreat
open Go Go.Fi
set_option maxRecDepth 20000
attribute [-simp] cEntries_drop2

theorem putS_abs (n : ByteArray) : ∀ l : List Line, (∀ k, k < l.length → -1000000000 ≤ (nth l k).amt ∧ (nth l k).amt ≤ 1000000000) → -(1000000000 * (l.length : Int)) ≤ putS n l ∧ putS n l ≤ 1000000000 * (l.length : Int)
  | [], _ => by simp
  | y :: l, h => by
    have h0 := h 0 (by simp)
    rw [show nth (y :: l) 0 = y from rfl] at h0
    have ih := putS_abs n l (fun k hk => h (k + 1) (by simpa using hk))
    simp only [putS, List.length_cons]
    split <;> omega
def balS (n : ByteArray) (d : Int) : List Entry → Int
  | [] => 0
  | e :: r => (if e.date ≤ d then putS n e.lines else 0) + balS n d r
@[simp] theorem balS_nil (n : ByteArray) (d : Int) : balS n d [] = 0 := rfl
theorem balS_snoc (n : ByteArray) (d : Int) (y : Entry) : ∀ l : List Entry, balS n d (l ++ [y]) = balS n d l + (if y.date ≤ d then putS n y.lines else 0)
  | [] => by simp [balS]
  | x :: l => by simp only [List.cons_append, balS, balS_snoc n d y l]; omega
theorem balS_succ (n : ByteArray) (d : Int) (l : List Entry) (k : Nat) (h : k < l.length) : balS n d (l.take (k + 1)) = balS n d (l.take k) + (if (nth l k).date ≤ d then putS n (nth l k).lines else 0) := by
  rw [take_succ_nth l k h, balS_snoc]
structure EntsIn (l : List Entry) : Prop where
  len : l.length < 10000
  ent : ∀ k, k < l.length → LinesIn (nth l k).lines
theorem putS_big (n : ByteArray) (l : List Line) (h : LinesIn l) : -100000000000000 ≤ putS n l ∧ putS n l ≤ 100000000000000 := by
  have hh := putS_abs n l h.amt
  have hl := h.len
  omega
set_option maxHeartbeats 1000000 in
theorem balance_c (b : Book) (n : ByteArray) (d : Int) (hl : EntsIn b.entries) : RealCall Tryz.prog 40 [.agg (cBook b), .str n, .int .i64 d] (.int .i64 (balS n d b.entries)) true := by
  obtain ⟨hlen, hent⟩ := hl
  obtain ⟨ba, be, bc⟩ := b
  unfold cBook
  dsimp only at *
  have ka := keep hent
  clear hent
  refine realcall_intro Tryz.func40 (by kernel_rfl) rfl (Nat.le_of_ble_eq_true (by kernel_rfl)) ?_
  simp only [Tryz.results40, Tryz.ntmps40]
  repeat' (first | (with_reducible first | refine awp_seq ?_ | refine awp_blockS ?_ | refine awp_blockC ?_ | refine awp_blockR ?_ | refine awp_skip ?_ | refine awp_ret ?_ | refine awp_exit ?_ | refine awp_region ?_ | refine awp_condM ?_ | refine And.intro ?_ ?_ | apply gQ_merge | apply gE_merge | exact EqV_w | exact EqE_w | exact EqV_ptr | exact EqE_ptr | exact EqV_msl | exact EqE_msl | exact EqV_agg | exact EqE_agg | exact EqV_fn | exact EqE_fn | exact EqV_gd | exact EqE_gd | refine gM_splitN ?_ ?_ | refine gM_split ?_ ?_ |  refine condM_splitDN ?_ ?_ | refine condM_splitD ?_ ?_ | refine condM_splitN ?_ ?_ | refine condM_split ?_ ?_ | refine condM_any ?_ ?_ | intro _) | (simp [*]))
  refine awp_for3 (fun (k : Nat) => k ≤ be.length ∧ (-(100000000000000 * (k : Int)) ≤ balS n d (be.take k) ∧ balS n d (be.take k) ≤ 100000000000000 * (k : Int))) [1, 2, 14, 15] (fun (k : Nat) => [(16, .w false false (.int .i64 k)), (7, .w false false (.int .i64 (balS n d (be.take k))))]) [] (fun (k : Nat) => []) (fun (k : Nat) => be.length - k) (fun (_u : Unit) => True) [] (fun (_u : Unit) => [(7, .w false false (.int .i64 (balS n d be)))]) [] (fun (_u : Unit) => []) (0) ⟨Nat.zero_le _, by simp, by simp⟩ (by simp) (by simp) (fun k hk => ?_) (fun _u hf => ?_)
  · obtain ⟨hk, b1, b2⟩ := hk
    by_cases hlt : k < be.length
    · have he := (show ∀ k, k < be.length → LinesIn (nth be k).lines from ka) k hlt
      obtain ⟨a1, a2⟩ := putS_big n _ he
      have c1 := put_c (nth be k) n he
      clear he
      have hs := balS_succ n d be k hlt
      generalize balS n d (be.take k) = S at *
      by_cases hq : (nth be k).date ≤ d
      · rw [if_pos hq] at hs
        have ks := keep hs
        clear hs
        generalize putS n (nth be k).lines = p at *
        unfold cEntry at c1
        repeat' (first | (with_reducible first | refine awp_seq ?_ | refine awp_blockS ?_ | refine awp_blockC ?_ | refine awp_blockR ?_ | refine awp_skip ?_ | refine awp_ret ?_ | refine awp_exit ?_ | refine awp_region ?_ | refine awp_condM ?_ | refine And.intro ?_ ?_ | apply gQ_merge | apply gE_merge | exact EqV_w | exact EqE_w | exact EqV_ptr | exact EqE_ptr | exact EqV_msl | exact EqE_msl | exact EqV_agg | exact EqE_agg | exact EqV_fn | exact EqE_fn | exact EqV_gd | exact EqE_gd | refine gM_splitN ?_ ?_ | refine gM_split ?_ ?_ |  refine condM_splitDN ?_ ?_ | refine condM_splitD ?_ ?_ | refine condM_splitN ?_ ?_ | refine condM_split ?_ ?_ | refine condM_any ?_ ?_ | refine cw (c1) ?_ | intro _) | (simp [*, hlt, hq, cEntry]) | (refine cw_eq (c1) ?_ ?_; (· (simp [*]; done))))
        all_goals first
          | exact inI64 (by omega) (by omega)
          | omega
          | (refine loopK_normal _ _ _ _ _ (k + 1) _ ?_ (by first | omega | (dsimp only; omega) | (simp; omega)) ?_; (· refine ⟨by omega, ?_, ?_⟩ <;> (rw [show balS n d (be.take (k + 1)) = _ from ks]; omega)); (refine le_of ?_ ?_ <;> first | trivial | (simp [*, show balS n d (be.take (k + 1)) = _ from ks]; done)))
          | skip
      · rw [if_neg hq, Int.add_zero] at hs
        have ks := keep hs
        clear hs
        repeat' (first | (with_reducible first | refine awp_seq ?_ | refine awp_blockS ?_ | refine awp_blockC ?_ | refine awp_blockR ?_ | refine awp_skip ?_ | refine awp_ret ?_ | refine awp_exit ?_ | refine awp_region ?_ | refine awp_condM ?_ | refine And.intro ?_ ?_ | apply gQ_merge | apply gE_merge | exact EqV_w | exact EqE_w | exact EqV_ptr | exact EqE_ptr | exact EqV_msl | exact EqE_msl | exact EqV_agg | exact EqE_agg | exact EqV_fn | exact EqE_fn | exact EqV_gd | exact EqE_gd | refine gM_splitN ?_ ?_ | refine gM_split ?_ ?_ |  refine condM_splitDN ?_ ?_ | refine condM_splitD ?_ ?_ | refine condM_splitN ?_ ?_ | refine condM_split ?_ ?_ | refine condM_any ?_ ?_ | intro _) | (simp [*, hlt, hq, cEntry]))
        all_goals first
          | exact inI64 (by omega) (by omega)
          | omega
          | (refine loopK_normal _ _ _ _ _ (k + 1) _ ?_ (by first | omega | (dsimp only; omega) | (simp; omega)) ?_; (· refine ⟨by omega, ?_, ?_⟩ <;> (rw [show balS n d (be.take (k + 1)) = _ from ks]; omega)); (refine le_of ?_ ?_ <;> first | trivial | (simp [*, show balS n d (be.take (k + 1)) = _ from ks]; done)))
          | skip
    · have hke : k = be.length := by omega
      subst hke
      rw [List.take_length] at *
      repeat' (first | (with_reducible first | refine awp_seq ?_ | refine awp_blockS ?_ | refine awp_blockC ?_ | refine awp_blockR ?_ | refine awp_skip ?_ | refine awp_ret ?_ | refine awp_exit ?_ | refine awp_region ?_ | refine awp_condM ?_ | refine And.intro ?_ ?_ | apply gQ_merge | apply gE_merge | exact EqV_w | exact EqE_w | exact EqV_ptr | exact EqE_ptr | exact EqV_msl | exact EqE_msl | exact EqV_agg | exact EqE_agg | exact EqV_fn | exact EqE_fn | exact EqV_gd | exact EqE_gd | refine gM_splitN ?_ ?_ | refine gM_split ?_ ?_ |  refine condM_splitDN ?_ ?_ | refine condM_splitD ?_ ?_ | refine condM_splitN ?_ ?_ | refine condM_split ?_ ?_ | refine condM_any ?_ ?_ | intro _) | (simp [*]))
      all_goals (refine finW_intro () ?_ ?_; (· trivial); (refine le_of ?_ ?_ <;> first | trivial | (simp [*, List.take_length]; done)))
  · clear hf
    repeat' (first | (with_reducible first | refine awp_seq ?_ | refine awp_blockS ?_ | refine awp_blockC ?_ | refine awp_blockR ?_ | refine awp_skip ?_ | refine awp_ret ?_ | refine awp_exit ?_ | refine awp_region ?_ | refine awp_condM ?_ | refine And.intro ?_ ?_ | apply gQ_merge | apply gE_merge | exact EqV_w | exact EqE_w | exact EqV_ptr | exact EqE_ptr | exact EqV_msl | exact EqE_msl | exact EqV_agg | exact EqE_agg | exact EqV_fn | exact EqE_fn | exact EqV_gd | exact EqE_gd | refine gM_splitN ?_ ?_ | refine gM_split ?_ ?_ |  refine condM_splitDN ?_ ?_ | refine condM_splitD ?_ ?_ | refine condM_splitN ?_ ?_ | refine condM_split ?_ ?_ | refine condM_any ?_ ?_ | intro _) | (simp [*]))
end Go.Proofs.YtlcimflkjfbaoaaGreat
namespace Go.Proofs.YtlcimflkjfbaoaaGreat
open Go Go.Fi
set_option maxRecDepth 20000
attribute [-simp] cEntries_drop2

theorem entryS_date {l : List Acc} {e : Entry} (h : (entryS l e).2 = 0) : 0 ≤ e.date := by
  unfold entryS at h
  by_cases hh : headE e = 0
  · exact (headE_zero hh).1
  · rw [if_neg hh] at h; exact absurd h hh
theorem entE_ok {l : List Acc} {s : Int} {e : Entry} (h : (entryS l e).2 = 0) (hd : s ≤ e.date) : entE l s e = 0 := by
  unfold entE; simp [firstS, h, hd]
end Go.Proofs.YtlcimflkjfbaoaaGreat

