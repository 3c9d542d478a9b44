/- Contracts of functions for this claim: lemmas alone. -/
import Derived.Test.YtdgbfbgnbgfmjaaGreatDoorP38
import Derived.Test.YtdgbfbgnbgfmjaaGreatDoorP26
set_option linter.unusedSimpArgs false
set_option linter.unusedVariables false
namespace Go.Proofs.YtdgbfbgnbgfmjaaGreatDoor
open Go Go.Fi
set_option maxRecDepth 20000
attribute [-simp] cEntries_drop2

/-! ### statements -/
def runK (n : ByteArray) (l : List Entry) : Nat → Int
  | 0 => 0
  | k + 1 => runK n l k + putS n (nth l k).lines
@[simp] theorem runK_zero (n : ByteArray) (l : List Entry) : runK n l 0 = 0 := rfl
theorem runK_succ (n : ByteArray) (l : List Entry) (k : Nat) : runK n l (k + 1) = runK n l k + putS n (nth l k).lines := rfl
theorem runK_abs (n : ByteArray) (l : List Entry) (h : EntsIn l) : ∀ k, k ≤ l.length → -(100000000000000 * (k : Int)) ≤ runK n l k ∧ runK n l k ≤ 100000000000000 * (k : Int)
  | 0, _ => by simp
  | k + 1, hk => by
    have ih := runK_abs n l h k (by omega)
    have hp := putS_big n _ (h.ent k (by omega))
    rw [runK_succ]
    omega
def stK (n : ByteArray) (lo hi : Int) (l : List Entry) : Nat → List Row
  | 0 => []
  | k + 1 => if (hasL n (nth l k).lines && winB (nth l k).date lo hi) = true then stK n lo hi l k ++ [⟨(k : Int), putS n (nth l k).lines, runK n l (k + 1)⟩] else stK n lo hi l k
@[simp] theorem stK_zero (n : ByteArray) (lo hi : Int) (l : List Entry) : stK n lo hi l 0 = [] := rfl
theorem stK_yes (n : ByteArray) (lo hi : Int) (l : List Entry) (k : Nat) (h1 : hasL n (nth l k).lines = true) (h2 : winB (nth l k).date lo hi = true) : stK n lo hi l (k + 1) = stK n lo hi l k ++ [⟨(k : Int), putS n (nth l k).lines, runK n l (k + 1)⟩] := if_pos (by rw [h1, h2]; rfl)
theorem stK_no (n : ByteArray) (lo hi : Int) (l : List Entry) (k : Nat) (h : hasL n (nth l k).lines = false ∨ winB (nth l k).date lo hi = false) : stK n lo hi l (k + 1) = stK n lo hi l k := if_neg (by rcases h with h | h <;> simp [h])
theorem stK_len (n : ByteArray) (lo hi : Int) (l : List Entry) : ∀ k, (stK n lo hi l k).length ≤ k
  | 0 => Nat.le_refl 0
  | k + 1 => by
    have ih := stK_len n lo hi l k
    unfold stK
    split
    · simp; omega
    · omega
def stE (b : Book) (n : ByteArray) (lo hi : Int) : Int := firstS [(bookS b).2, errUnless (hasS b.accs n) 6, dateE lo, dateE hi, errUnless (decide (lo ≤ hi)) 9]
theorem statement_bad (b : Book) (hb : BookIn b) (n : ByteArray) (lo hi : Int) (h : ¬ stE b n lo hi = 0) : RealCall Tryz.prog 52 [.agg (cBook b), .str n, .agg [.int .i64 lo, .int .i64 hi]] (.tup [.sl 0 [], .int .i64 (stE b n lo hi)]) true := by
  have c1 := open_c b hb
  have c2 := accountErr_c b (by have := hb.accs.len; omega) n
  have c3 := dateErr_c lo
  have c4 := dateErr_c hi
  have c5 := first5_c (bookS b).2 (errUnless (hasS b.accs n) 6) (dateE lo) (dateE hi) (errUnless (decide (lo ≤ hi)) 9)
  change RealCall _ _ _ (.int .i64 (stE b n lo hi)) true at c5
  generalize stE b n lo hi = X at *
  generalize (bookS b).2 = Y at *
  generalize dateE lo = D1 at *
  generalize dateE hi = D2 at *
  unfold cBook at *
  refine realcall_intro Tryz.func52 (by kernel_rfl) rfl (Nat.le_of_ble_eq_true (by kernel_rfl)) ?_
  simp only [Tryz.results52, Tryz.ntmps52]
  repeat' (first | (with_reducible first | refine awp_seq ?_ | refine awp_blockS ?_ | refine awp_blockC ?_ | refine awp_blockR ?_ | refine awp_skip ?_ | refine awp_ret ?_ | refine awp_exit ?_ | refine awp_region ?_ | refine awp_regionD (id := 2) 18 mixed (by decide +kernel) ?_ | refine awp_condM ?_ | refine And.intro ?_ ?_ | apply gQ_merge | apply gE_merge | exact EqV_w | exact EqE_w | exact EqV_ptr | exact EqE_ptr | exact EqV_msl | exact EqE_msl | exact EqV_agg | exact EqE_agg | exact EqV_fn | exact EqE_fn | exact EqV_gd | exact EqE_gd | refine gM_splitN ?_ ?_ | refine gM_split ?_ ?_ |  refine condM_splitDN ?_ ?_ | refine condM_splitD ?_ ?_ | refine condM_splitN ?_ ?_ | refine condM_split ?_ ?_ | refine condM_any ?_ ?_ | refine cw (c1) ?_ | refine cw (c2) ?_ | refine cw (c3) ?_ | refine cw (c4) ?_ | refine cw (c5) ?_ | refine cw (unless_c _ _) ?_ | intro _) | (simp [*, h]) | (refine cw_eq (c1) ?_ ?_; (· (simp [*]; done))) | (refine cw_eq (c2) ?_ ?_; (· (simp [*]; done))) | (refine cw_eq (c3) ?_ ?_; (· (simp [*]; done))) | (refine cw_eq (c4) ?_ ?_; (· (simp [*]; done))) | (refine cw_eq (c5) ?_ ?_; (· (simp [*]; done))) | (refine cw_eq (unless_c _ _) ?_ ?_; (· (simp [*]; done))))
set_option maxHeartbeats 4000000 in
theorem statement_ok (b : Book) (hb : BookIn b) (n : ByteArray) (lo hi : Int) (h : stE b n lo hi = 0) : RealCall Tryz.prog 52 [.agg (cBook b), .str n, .agg [.int .i64 lo, .int .i64 hi]] (.tup [.sl (stK n lo hi b.entries b.entries.length).length (cRows (stK n lo hi b.entries b.entries.length)), .int .i64 0]) true := by
  have c1 := open_c b hb
  have c2 := accountErr_c b (by have := hb.accs.len; omega) n
  have c3 := dateErr_c lo
  have c4 := dateErr_c hi
  have c5 := first5_c (bookS b).2 (errUnless (hasS b.accs n) 6) (dateE lo) (dateE hi) (errUnless (decide (lo ≤ hi)) 9)
  change RealCall _ _ _ (.int .i64 (stE b n lo hi)) true at c5
  have hb0 := firstS_zero h (bookS b).2 (by simp)
  have he := (bookS_zero hb0).tight.ents
  rw [h] at c5
  rw [hb0] at c1 c5
  have hlen := hb.len
  clear h hb0 hb
  generalize dateE lo = D1 at *
  generalize dateE hi = D2 at *
  obtain ⟨ba, be, bc⟩ := b
  unfold cBook at *
  dsimp only at *
  refine realcall_intro Tryz.func52 (by kernel_rfl) rfl (Nat.le_of_ble_eq_true (by kernel_rfl)) ?_
  simp only [Tryz.results52, Tryz.ntmps52]
  repeat' (first | (with_reducible first | refine awp_seq ?_ | refine awp_blockS ?_ | refine awp_blockC ?_ | refine awp_blockR ?_ | refine awp_skip ?_ | refine awp_ret ?_ | refine awp_exit ?_ | refine awp_region ?_ | refine awp_regionD (id := 2) 18 mixed (by decide +kernel) ?_ | refine awp_condM ?_ | refine And.intro ?_ ?_ | apply gQ_merge | apply gE_merge | exact EqV_w | exact EqE_w | exact EqV_ptr | exact EqE_ptr | exact EqV_msl | exact EqE_msl | exact EqV_agg | exact EqE_agg | exact EqV_fn | exact EqE_fn | exact EqV_gd | exact EqE_gd | refine gM_splitN ?_ ?_ | refine gM_split ?_ ?_ |  refine condM_splitDN ?_ ?_ | refine condM_splitD ?_ ?_ | refine condM_splitN ?_ ?_ | refine condM_split ?_ ?_ | refine condM_any ?_ ?_ | refine cw (c1) ?_ | refine cw (c2) ?_ | refine cw (c3) ?_ | refine cw (c4) ?_ | refine cw (c5) ?_ | refine cw (unless_c _ _) ?_ | intro _) | (simp [*]) | (refine cw_eq (c1) ?_ ?_; (· (simp [*]; done))) | (refine cw_eq (c2) ?_ ?_; (· (simp [*]; done))) | (refine cw_eq (c3) ?_ ?_; (· (simp [*]; done))) | (refine cw_eq (c4) ?_ ?_; (· (simp [*]; done))) | (refine cw_eq (c5) ?_ ?_; (· (simp [*]; done))) | (refine cw_eq (unless_c _ _) ?_ ?_; (· (simp [*]; done))))
  refine awp_for4 5 (fun (k : Nat) => k ≤ be.length ∧ (-(100000000000000 * (k : Int)) ≤ runK n be k ∧ runK n be k ≤ 100000000000000 * (k : Int))) [1, 5, 43, 44] (fun (k : Nat) => [(10, .msl 4 ((stK n lo hi be k).length * 3) 3 0 (stK n lo hi be k).length), (11, .w false false (.int .i64 (runK n be k))), (45, .w false false (.int .i64 k))]) [1] (fun (k : Nat) => [(4, rA (stK n lo hi be k))]) (fun (k : Nat) => be.length - k) (fun (_u : Unit) => True) [] (fun (_u : Unit) => [(10, .msl 4 ((stK n lo hi be be.length).length * 3) 3 0 (stK n lo hi be be.length).length)]) [] (fun (_u : Unit) => [(4, rA (stK n lo hi be be.length))]) (0) ⟨Nat.zero_le _, by simp, by simp⟩ (le_gen [] (by simp) (by simp)) (fun k hk => ?_) (fun _u hf => ?_)
  · obtain ⟨hk, b1, b2⟩ := hk
    clear c1 c2 c3 c4 c5
    by_cases hlt : k < be.length
    · have hl := (show ∀ k, k < be.length → LinesIn (nth be k).lines from he.ent) k hlt
      have c1 := put_c (nth be k) n hl
      have c2 := within_c (nth be k).date lo hi
      obtain ⟨a1, a2⟩ := putS_big n _ hl
      have hr := runK_succ n be k
      have hL := stK_len n lo hi be k
      have hy := stK_yes n lo hi be k
      have hn := stK_no n lo hi be k
      clear he hl
      have kr := keep hr
      cases h1 : hasL n (nth be k).lines with
      | false =>
        have ks := keep (hn (.inl h1))
        rw [h1] at c1
        clear hy hn h1 hr
        generalize stK n lo hi be k = L at *
        generalize runK n be k = R at *
        generalize putS n (nth be k).lines = p at *
        unfold cEntry at c1
        repeat' (first | (with_reducible first | refine awp_seq ?_ | refine awp_blockS ?_ | refine awp_blockC ?_ | refine awp_blockR ?_ | refine awp_skip ?_ | refine awp_ret ?_ | refine awp_exit ?_ | refine awp_region ?_ | refine awp_regionD (id := 2) 18 mixed (by decide +kernel) ?_ | refine awp_condM ?_ | refine And.intro ?_ ?_ | apply gQ_merge | apply gE_merge | exact EqV_w | exact EqE_w | exact EqV_ptr | exact EqE_ptr | exact EqV_msl | exact EqE_msl | exact EqV_agg | exact EqE_agg | exact EqV_fn | exact EqE_fn | exact EqV_gd | exact EqE_gd | refine gM_splitN ?_ ?_ | refine gM_split ?_ ?_ |  refine condM_splitDN ?_ ?_ | refine condM_splitD ?_ ?_ | refine condM_splitN ?_ ?_ | refine condM_split ?_ ?_ | refine condM_any ?_ ?_ | refine cw (c1) ?_ | refine cw (c2) ?_ | intro _) | (simp [*, hlt, cEntry]) | (refine cw_eq (c1) ?_ ?_; (· (simp [*]; done))) | (refine cw_eq (c2) ?_ ?_; (· (simp [*]; done))))
        all_goals first
          | exact inI64 (by omega) (by omega)
          | omega
          | (refine loopK_normal _ _ _ _ _ (k + 1) _ ?_ (by first | omega | (dsimp only; omega) | (simp; omega)) ?_; (· refine ⟨by omega, ?_, ?_⟩ <;> (rw [show runK n be (k + 1) = _ from kr]; omega)); (refine le_gen [] ?_ ?_ <;> first | trivial | (simp [*, (show stK n lo hi be (k + 1) = _ from ks), (show runK n be (k + 1) = _ from kr), Nat.add_mul]; done)))
          | skip
      | true =>
        rw [h1] at c1
        cases h2 : winB (nth be k).date lo hi with
        | false =>
          have ks := keep (hn (.inr h2))
          rw [h2] at c2
          clear hy hn h1 h2 hr
          generalize stK n lo hi be k = L at *
          generalize runK n be k = R at *
          generalize putS n (nth be k).lines = p at *
          unfold cEntry at c1
          repeat' (first | (with_reducible first | refine awp_seq ?_ | refine awp_blockS ?_ | refine awp_blockC ?_ | refine awp_blockR ?_ | refine awp_skip ?_ | refine awp_ret ?_ | refine awp_exit ?_ | refine awp_region ?_ | refine awp_regionD (id := 2) 18 mixed (by decide +kernel) ?_ | refine awp_condM ?_ | refine And.intro ?_ ?_ | apply gQ_merge | apply gE_merge | exact EqV_w | exact EqE_w | exact EqV_ptr | exact EqE_ptr | exact EqV_msl | exact EqE_msl | exact EqV_agg | exact EqE_agg | exact EqV_fn | exact EqE_fn | exact EqV_gd | exact EqE_gd | refine gM_splitN ?_ ?_ | refine gM_split ?_ ?_ |  refine condM_splitDN ?_ ?_ | refine condM_splitD ?_ ?_ | refine condM_splitN ?_ ?_ | refine condM_split ?_ ?_ | refine condM_any ?_ ?_ | refine cw (c1) ?_ | refine cw (c2) ?_ | intro _) | (simp [*, hlt, cEntry]) | (refine cw_eq (c1) ?_ ?_; (· (simp [*]; done))) | (refine cw_eq (c2) ?_ ?_; (· (simp [*]; done))))
          all_goals first
            | exact inI64 (by omega) (by omega)
            | omega
            | (refine loopK_normal _ _ _ _ _ (k + 1) _ ?_ (by first | omega | (dsimp only; omega) | (simp; omega)) ?_; (· refine ⟨by omega, ?_, ?_⟩ <;> (rw [show runK n be (k + 1) = _ from kr]; omega)); (refine le_gen [] ?_ ?_ <;> first | trivial | (simp [*, (show stK n lo hi be (k + 1) = _ from ks), (show runK n be (k + 1) = _ from kr), Nat.add_mul]; done)))
            | skip
        | true =>
          have ks := keep (hy h1 h2)
          rw [hr] at ks
          rw [h2] at c2
          clear hy hn h1 h2 hr
          generalize stK n lo hi be k = L at *
          generalize runK n be k = R at *
          generalize putS n (nth be k).lines = p at *
          unfold cEntry at c1
          repeat' (first | (with_reducible first | refine awp_seq ?_ | refine awp_blockS ?_ | refine awp_blockC ?_ | refine awp_blockR ?_ | refine awp_skip ?_ | refine awp_ret ?_ | refine awp_exit ?_ | refine awp_region ?_ | refine awp_regionD (id := 2) 18 mixed (by decide +kernel) ?_ | refine awp_condM ?_ | refine And.intro ?_ ?_ | apply gQ_merge | apply gE_merge | exact EqV_w | exact EqE_w | exact EqV_ptr | exact EqE_ptr | exact EqV_msl | exact EqE_msl | exact EqV_agg | exact EqE_agg | exact EqV_fn | exact EqE_fn | exact EqV_gd | exact EqE_gd | refine gM_splitN ?_ ?_ | refine gM_split ?_ ?_ |  refine condM_splitDN ?_ ?_ | refine condM_splitD ?_ ?_ | refine condM_splitN ?_ ?_ | refine condM_split ?_ ?_ | refine condM_any ?_ ?_ | refine cw (c1) ?_ | refine cw (c2) ?_ | intro _) | (simp [*, hlt, cEntry]) | (refine cw_eq (c1) ?_ ?_; (· (simp [*]; done))) | (refine cw_eq (c2) ?_ ?_; (· (simp [*]; done))))
          all_goals first
            | exact inI64 (by omega) (by omega)
            | omega
            | (refine loopK_normal _ _ _ _ _ (k + 1) _ ?_ (by first | omega | (dsimp only; omega) | (simp; omega)) ?_; (· refine ⟨by omega, ?_, ?_⟩ <;> (rw [show runK n be (k + 1) = _ from kr]; omega)); (refine le_gen [] ?_ ?_ <;> first | trivial | (simp [*, (show stK n lo hi be (k + 1) = _ from ks), (show runK n be (k + 1) = _ from kr), Nat.add_mul]; done)))
            | skip
    · have hke : k = be.length := by omega
      subst hke
      clear he
      repeat' (first | (with_reducible first | refine awp_seq ?_ | refine awp_blockS ?_ | refine awp_blockC ?_ | refine awp_blockR ?_ | refine awp_skip ?_ | refine awp_ret ?_ | refine awp_exit ?_ | refine awp_region ?_ | refine awp_regionD (id := 2) 18 mixed (by decide +kernel) ?_ | refine awp_condM ?_ | refine And.intro ?_ ?_ | apply gQ_merge | apply gE_merge | exact EqV_w | exact EqE_w | exact EqV_ptr | exact EqE_ptr | exact EqV_msl | exact EqE_msl | exact EqV_agg | exact EqE_agg | exact EqV_fn | exact EqE_fn | exact EqV_gd | exact EqE_gd | refine gM_splitN ?_ ?_ | refine gM_split ?_ ?_ |  refine condM_splitDN ?_ ?_ | refine condM_splitD ?_ ?_ | refine condM_splitN ?_ ?_ | refine condM_split ?_ ?_ | refine condM_any ?_ ?_ | intro _) | (simp [*]))
      all_goals (refine finW_intro () ?_ ?_; (· trivial); (refine le_gen [] ?_ ?_ <;> first | trivial | (simp [*]; done)))
  · clear c1 c2 c3 c4 c5 he
    repeat' (first | (with_reducible first | refine awp_seq ?_ | refine awp_blockS ?_ | refine awp_blockC ?_ | refine awp_blockR ?_ | refine awp_skip ?_ | refine awp_ret ?_ | refine awp_exit ?_ | refine awp_region ?_ | refine awp_regionD (id := 2) 18 mixed (by decide +kernel) ?_ | refine awp_condM ?_ | refine And.intro ?_ ?_ | apply gQ_merge | apply gE_merge | exact EqV_w | exact EqE_w | exact EqV_ptr | exact EqE_ptr | exact EqV_msl | exact EqE_msl | exact EqV_agg | exact EqE_agg | exact EqV_fn | exact EqE_fn | exact EqV_gd | exact EqE_gd | refine gM_splitN ?_ ?_ | refine gM_split ?_ ?_ |  refine condM_splitDN ?_ ?_ | refine condM_splitD ?_ ?_ | refine condM_splitN ?_ ?_ | refine condM_split ?_ ?_ | refine condM_any ?_ ?_ | intro _) | (simp [*]))
end Go.Proofs.YtdgbfbgnbgfmjaaGreatDoor
namespace Go.Proofs.YtdgbfbgnbgfmjaaGreatDoor
open Go Go.Fi
set_option maxRecDepth 20000

/-! ### the last row of a statement holds the balance -/
theorem putS_no (n : ByteArray) : ∀ l : List Line, hasL n l = false → putS n l = 0
  | [], _ => rfl
  | y :: l, h => by
    unfold hasL at h
    rw [List.any_cons, Bool.or_eq_false_iff] at h
    have h1 := of_decide_eq_false h.1
    simp only [putS]
    rw [if_neg h1, putS_no n l h.2]
    rfl
theorem bookF_sorted {a : List Acc} {c : Int} : ∀ (l : List Entry) (i : Nat) (s : Int), (bookF a c l i s).2 = 0 → (∀ k, k < l.length → s ≤ (nth l k).date) ∧ ∀ j k, j ≤ k → k < l.length → (nth l j).date ≤ (nth l k).date
  | [], _, _, _ => ⟨fun k hk => absurd hk (Nat.not_lt_zero _), fun j k _ hk => absurd hk (Nat.not_lt_zero _)⟩
  | y :: r, i, s, h => by
    unfold bookF at h
    by_cases hy : entE a s y = 0
    · rw [if_pos hy] at h
      obtain ⟨h1, h2⟩ := bookF_sorted r _ _ h
      have hs := (entE_zero hy).2
      refine ⟨fun k hk => ?_, fun j k hjk hk => ?_⟩
      · cases k with
        | zero => exact hs
        | succ k => exact Int.le_trans hs (h1 k (by simpa using hk))
      · cases k with
        | zero =>
          have hj : j = 0 := by omega
          subst hj
          exact Int.le_refl _
        | succ k =>
          cases j with
          | zero => exact h1 k (by simpa using hk)
          | succ j => exact h2 j k (by omega) (by simpa using hk)
    · rw [if_neg hy] at h; exact absurd h hy
theorem bookS_sorted {b : Book} (h : (bookS b).2 = 0) : ∀ j k, j ≤ k → k < b.entries.length → (nth b.entries j).date ≤ (nth b.entries k).date := by
  unfold bookS at h
  by_cases hh : bookH b = 0
  · rw [if_pos hh] at h
    exact (bookF_sorted _ _ _ h).2
  · rw [if_neg hh] at h; exact absurd h hh
theorem bal_run (n : ByteArray) (d : Int) (l : List Entry) : ∀ k, k ≤ l.length → (∀ j, j < k → (nth l j).date ≤ d) → balS n d (l.take k) = runK n l k
  | 0, _, _ => by simp
  | k + 1, hk, hd => by
    rw [balS_succ n d l k (by omega), runK_succ, bal_run n d l k (by omega) (fun j hj => hd j (by omega)), if_pos (hd k (by omega))]
theorem st_last (n : ByteArray) (lo hi : Int) (l : List Entry) (hs : ∀ j k, j ≤ k → k < l.length → (nth l j).date ≤ (nth l k).date) : ∀ k, k ≤ l.length →
    ¬ (stK n lo hi l k).length = 0 → (nth (stK n lo hi l k) ((stK n lo hi l k).length - 1)).bal = balS n hi (l.take k) ∧ ∃ p, p < k ∧ lo ≤ (nth l p).date
  | 0, _, h => absurd rfl h
  | k + 1, hk, h => by
    cases h1 : hasL n (nth l k).lines with
    | true =>
      cases h2 : winB (nth l k).date lo hi with
      | true =>
        have hw := winB_iff.1 h2
        rw [stK_yes n lo hi l k h1 h2]
        refine ⟨?_, k, by omega, hw.1⟩
        rw [bal_run n hi l (k + 1) hk (fun j hj => Int.le_trans (hs j k (by omega) (by omega)) hw.2)]
        simp [nth]
      | false =>
        rw [stK_no n lo hi l k (.inr h2)] at h ⊢
        obtain ⟨e, p, hp, hd⟩ := st_last n lo hi l hs k (by omega) h
        refine ⟨?_, p, by omega, hd⟩
        rw [e, balS_succ n hi l k (by omega)]
        have hpk := hs p k (by omega) (by omega)
        have : ¬ (nth l k).date ≤ hi := fun hle => by
          have : winB (nth l k).date lo hi = true := winB_iff.2 ⟨by omega, hle⟩
          rw [this] at h2; cases h2
        rw [if_neg this]; omega
    | false =>
      rw [stK_no n lo hi l k (.inl h1)] at h ⊢
      obtain ⟨e, p, hp, hd⟩ := st_last n lo hi l hs k (by omega) h
      refine ⟨?_, p, by omega, hd⟩
      rw [e, balS_succ n hi l k (by omega), putS_no n _ h1]
      simp
end Go.Proofs.YtdgbfbgnbgfmjaaGreatDoor
namespace Go.Proofs.YtdgbfbgnbgfmjaaGreatDoor
open Go Go.Fi
set_option maxRecDepth 20000

/-! ### AccountStatements -/
theorem sameRows_c (l : List Row) (hl : l.length < 100000) : RealCall Tryz.prog 54 [.sl l.length (cRows l), .sl l.length (cRows l)] (.bool true) true := by
  refine realcall_intro Tryz.func54 (by kernel_rfl) rfl (Nat.le_of_ble_eq_true (by kernel_rfl)) ?_
  simp only [Tryz.results54, Tryz.ntmps54]
  repeat' (first | (with_reducible first | refine awp_seq ?_ | refine awp_blockS ?_ | refine awp_blockC ?_ | refine awp_blockR ?_ | refine awp_skip ?_ | refine awp_ret ?_ | refine awp_exit ?_ | refine awp_region ?_ | refine awp_regionD (id := 6) 9 mixed (by decide +kernel) ?_ | refine awp_condM ?_ | refine And.intro ?_ ?_ | apply gQ_merge | apply gE_merge | exact EqV_w | exact EqE_w | exact EqV_ptr | exact EqE_ptr | exact EqV_msl | exact EqE_msl | exact EqV_agg | exact EqE_agg | exact EqV_fn | exact EqE_fn | exact EqV_gd | exact EqE_gd | refine gM_splitN ?_ ?_ | refine gM_split ?_ ?_ |  refine condM_splitDN ?_ ?_ | refine condM_splitD ?_ ?_ | refine condM_splitN ?_ ?_ | refine condM_split ?_ ?_ | refine condM_any ?_ ?_ | intro _) | (simp [*]))
  refine awp_for3 (fun (k : Nat) => k ≤ l.length) [0, 1] (fun (k : Nat) => [(5, .w false false (.int .i64 k))]) [] (fun (k : Nat) => []) (fun (k : Nat) => l.length - k) (fun (_u : Unit) => True) [] (fun (_u : Unit) => []) [] (fun (_u : Unit) => []) (0) (Nat.zero_le _) (by simp) (by simp) (fun k hk => ?_) (fun _u hf => ?_)
  · by_cases hlt : k < l.length
    · repeat' (first | (with_reducible first | refine awp_seq ?_ | refine awp_blockS ?_ | refine awp_blockC ?_ | refine awp_blockR ?_ | refine awp_skip ?_ | refine awp_ret ?_ | refine awp_exit ?_ | refine awp_region ?_ | refine awp_regionD (id := 6) 9 mixed (by decide +kernel) ?_ | refine awp_condM ?_ | refine And.intro ?_ ?_ | apply gQ_merge | apply gE_merge | exact EqV_w | exact EqE_w | exact EqV_ptr | exact EqE_ptr | exact EqV_msl | exact EqE_msl | exact EqV_agg | exact EqE_agg | exact EqV_fn | exact EqE_fn | exact EqV_gd | exact EqE_gd | refine gM_splitN ?_ ?_ | refine gM_split ?_ ?_ |  refine condM_splitDN ?_ ?_ | refine condM_splitD ?_ ?_ | refine condM_splitN ?_ ?_ | refine condM_split ?_ ?_ | refine condM_any ?_ ?_ | intro _) | (simp [*, hlt, cRow]))
      all_goals first
        | exact inI64 (by omega) (by omega)
        | omega
        | (refine loopK_normal _ _ _ _ _ (k + 1) _ ?_ (by first | omega | (dsimp only; omega) | (simp; omega)) ?_; (· omega); (refine le_of ?_ ?_ <;> first | trivial | (simp [*]; done)))
        | skip
    · have hke : k = l.length := by omega
      subst hke
      repeat' (first | (with_reducible first | refine awp_seq ?_ | refine awp_blockS ?_ | refine awp_blockC ?_ | refine awp_blockR ?_ | refine awp_skip ?_ | refine awp_ret ?_ | refine awp_exit ?_ | refine awp_region ?_ | refine awp_regionD (id := 6) 9 mixed (by decide +kernel) ?_ | refine awp_condM ?_ | refine And.intro ?_ ?_ | apply gQ_merge | apply gE_merge | exact EqV_w | exact EqE_w | exact EqV_ptr | exact EqE_ptr | exact EqV_msl | exact EqE_msl | exact EqV_agg | exact EqE_agg | exact EqV_fn | exact EqE_fn | exact EqV_gd | exact EqE_gd | refine gM_splitN ?_ ?_ | refine gM_split ?_ ?_ |  refine condM_splitDN ?_ ?_ | refine condM_splitD ?_ ?_ | refine condM_splitN ?_ ?_ | refine condM_split ?_ ?_ | refine condM_any ?_ ?_ | intro _) | (simp [*]))
      all_goals (refine finW_intro () ?_ ?_; (· trivial); (refine le_of ?_ ?_ <;> first | trivial | (simp [*]; done)))
  · clear hf
    repeat' (first | (with_reducible first | refine awp_seq ?_ | refine awp_blockS ?_ | refine awp_blockC ?_ | refine awp_blockR ?_ | refine awp_skip ?_ | refine awp_ret ?_ | refine awp_exit ?_ | refine awp_region ?_ | refine awp_regionD (id := 6) 9 mixed (by decide +kernel) ?_ | refine awp_condM ?_ | refine And.intro ?_ ?_ | apply gQ_merge | apply gE_merge | exact EqV_w | exact EqE_w | exact EqV_ptr | exact EqE_ptr | exact EqV_msl | exact EqE_msl | exact EqV_agg | exact EqE_agg | exact EqV_fn | exact EqE_fn | exact EqV_gd | exact EqE_gd | refine gM_splitN ?_ ?_ | refine gM_split ?_ ?_ |  refine condM_splitDN ?_ ?_ | refine condM_splitD ?_ ?_ | refine condM_splitN ?_ ?_ | refine condM_split ?_ ?_ | refine condM_any ?_ ?_ | intro _) | (simp [*]))
end Go.Proofs.YtdgbfbgnbgfmjaaGreatDoor
