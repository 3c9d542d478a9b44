/- Contracts of functions for this claim: lemmas alone. -/
import Derived.Test.YtdgbfbgnbgfmjaaGreatDoorP22
set_option linter.unusedSimpArgs false
set_option linter.unusedVariables false
namespace Go.Proofs.YtdgbfbgnbgfmjaaGreatDoor
open Go Go.Fi
set_option maxRecDepth 20000
attribute [-simp] cEntries_drop2

theorem putS_abs (n : ByteArray) : ∀ l : List Line, (∀ k, k < l.length → -1000000000 ≤ (nth l k).amt ∧ (nth l k).amt ≤ 1000000000) → -(1000000000 * (l.length : Int)) ≤ putS n l ∧ putS n l ≤ 1000000000 * (l.length : Int)
  | [], _ => by simp
  | y :: l, h => by
    have h0 := h 0 (by simp)
    rw [show nth (y :: l) 0 = y from rfl] at h0
    have ih := putS_abs n l (fun k hk => h (k + 1) (by simpa using hk))
    simp only [putS, List.length_cons]
    split <;> omega
def balS (n : ByteArray) (d : Int) : List Entry → Int
  | [] => 0
  | e :: r => (if e.date ≤ d then putS n e.lines else 0) + balS n d r
@[simp] theorem balS_nil (n : ByteArray) (d : Int) : balS n d [] = 0 := rfl
theorem balS_snoc (n : ByteArray) (d : Int) (y : Entry) : ∀ l : List Entry, balS n d (l ++ [y]) = balS n d l + (if y.date ≤ d then putS n y.lines else 0)
  | [] => by simp [balS]
  | x :: l => by simp only [List.cons_append, balS, balS_snoc n d y l]; omega
theorem balS_succ (n : ByteArray) (d : Int) (l : List Entry) (k : Nat) (h : k < l.length) : balS n d (l.take (k + 1)) = balS n d (l.take k) + (if (nth l k).date ≤ d then putS n (nth l k).lines else 0) := by
  rw [take_succ_nth l k h, balS_snoc]
structure EntsIn (l : List Entry) : Prop where
  len : l.length < 10000
  ent : ∀ k, k < l.length → LinesIn (nth l k).lines
theorem putS_big (n : ByteArray) (l : List Line) (h : LinesIn l) : -100000000000000 ≤ putS n l ∧ putS n l ≤ 100000000000000 := by
  have hh := putS_abs n l h.amt
  have hl := h.len
  omega
set_option maxHeartbeats 1000000 in
theorem balance_c (b : Book) (n : ByteArray) (d : Int) (hl : EntsIn b.entries) : RealCall Tryz.prog 118 [.agg (cBook b), .str n, .int .i64 d] (.int .i64 (balS n d b.entries)) true := by
  obtain ⟨hlen, hent⟩ := hl
  obtain ⟨ba, be, bc⟩ := b
  unfold cBook
  dsimp only at *
  have ka := keep hent
  clear hent
  refine realcall_intro Tryz.func118 (by kernel_rfl) rfl (Nat.le_of_ble_eq_true (by kernel_rfl)) ?_
  simp only [Tryz.results118, Tryz.ntmps118]
  repeat' (first | (with_reducible first | refine awp_seq ?_ | refine awp_blockS ?_ | refine awp_blockC ?_ | refine awp_blockR ?_ | refine awp_skip ?_ | refine awp_ret ?_ | refine awp_exit ?_ | refine awp_region ?_ | refine awp_condM ?_ | refine And.intro ?_ ?_ | apply gQ_merge | apply gE_merge | exact EqV_w | exact EqE_w | exact EqV_ptr | exact EqE_ptr | exact EqV_msl | exact EqE_msl | exact EqV_agg | exact EqE_agg | exact EqV_fn | exact EqE_fn | exact EqV_gd | exact EqE_gd | refine gM_splitN ?_ ?_ | refine gM_split ?_ ?_ |  refine condM_splitDN ?_ ?_ | refine condM_splitD ?_ ?_ | refine condM_splitN ?_ ?_ | refine condM_split ?_ ?_ | refine condM_any ?_ ?_ | intro _) | (simp [*]))
  refine awp_for3 (fun (k : Nat) => k ≤ be.length ∧ (-(100000000000000 * (k : Int)) ≤ balS n d (be.take k) ∧ balS n d (be.take k) ≤ 100000000000000 * (k : Int))) [1, 2, 14, 15] (fun (k : Nat) => [(16, .w false false (.int .i64 k)), (7, .w false false (.int .i64 (balS n d (be.take k))))]) [] (fun (k : Nat) => []) (fun (k : Nat) => be.length - k) (fun (_u : Unit) => True) [] (fun (_u : Unit) => [(7, .w false false (.int .i64 (balS n d be)))]) [] (fun (_u : Unit) => []) (0) ⟨Nat.zero_le _, by simp, by simp⟩ (by simp) (by simp) (fun k hk => ?_) (fun _u hf => ?_)
  · obtain ⟨hk, b1, b2⟩ := hk
    by_cases hlt : k < be.length
    · have he := (show ∀ k, k < be.length → LinesIn (nth be k).lines from ka) k hlt
      obtain ⟨a1, a2⟩ := putS_big n _ he
      have c1 := put_c (nth be k) n he
      clear he
      have hs := balS_succ n d be k hlt
      generalize balS n d (be.take k) = S at *
      by_cases hq : (nth be k).date ≤ d
      · rw [if_pos hq] at hs
        have ks := keep hs
        clear hs
        generalize putS n (nth be k).lines = p at *
        unfold cEntry at c1
        repeat' (first | (with_reducible first | refine awp_seq ?_ | refine awp_blockS ?_ | refine awp_blockC ?_ | refine awp_blockR ?_ | refine awp_skip ?_ | refine awp_ret ?_ | refine awp_exit ?_ | refine awp_region ?_ | refine awp_condM ?_ | refine And.intro ?_ ?_ | apply gQ_merge | apply gE_merge | exact EqV_w | exact EqE_w | exact EqV_ptr | exact EqE_ptr | exact EqV_msl | exact EqE_msl | exact EqV_agg | exact EqE_agg | exact EqV_fn | exact EqE_fn | exact EqV_gd | exact EqE_gd | refine gM_splitN ?_ ?_ | refine gM_split ?_ ?_ |  refine condM_splitDN ?_ ?_ | refine condM_splitD ?_ ?_ | refine condM_splitN ?_ ?_ | refine condM_split ?_ ?_ | refine condM_any ?_ ?_ | refine cw (c1) ?_ | intro _) | (simp [*, hlt, hq, cEntry]) | (refine cw_eq (c1) ?_ ?_; (· (simp [*]; done))))
        all_goals first
          | exact inI64 (by omega) (by omega)
          | omega
          | (refine loopK_normal _ _ _ _ _ (k + 1) _ ?_ (by first | omega | (dsimp only; omega) | (simp; omega)) ?_; (· refine ⟨by omega, ?_, ?_⟩ <;> (rw [show balS n d (be.take (k + 1)) = _ from ks]; omega)); (refine le_of ?_ ?_ <;> first | trivial | (simp [*, show balS n d (be.take (k + 1)) = _ from ks]; done)))
          | skip
      · rw [if_neg hq, Int.add_zero] at hs
        have ks := keep hs
        clear hs
        repeat' (first | (with_reducible first | refine awp_seq ?_ | refine awp_blockS ?_ | refine awp_blockC ?_ | refine awp_blockR ?_ | refine awp_skip ?_ | refine awp_ret ?_ | refine awp_exit ?_ | refine awp_region ?_ | refine awp_condM ?_ | refine And.intro ?_ ?_ | apply gQ_merge | apply gE_merge | exact EqV_w | exact EqE_w | exact EqV_ptr | exact EqE_ptr | exact EqV_msl | exact EqE_msl | exact EqV_agg | exact EqE_agg | exact EqV_fn | exact EqE_fn | exact EqV_gd | exact EqE_gd | refine gM_splitN ?_ ?_ | refine gM_split ?_ ?_ |  refine condM_splitDN ?_ ?_ | refine condM_splitD ?_ ?_ | refine condM_splitN ?_ ?_ | refine condM_split ?_ ?_ | refine condM_any ?_ ?_ | intro _) | (simp [*, hlt, hq, cEntry]))
        all_goals first
          | exact inI64 (by omega) (by omega)
          | omega
          | (refine loopK_normal _ _ _ _ _ (k + 1) _ ?_ (by first | omega | (dsimp only; omega) | (simp; omega)) ?_; (· refine ⟨by omega, ?_, ?_⟩ <;> (rw [show balS n d (be.take (k + 1)) = _ from ks]; omega)); (refine le_of ?_ ?_ <;> first | trivial | (simp [*, show balS n d (be.take (k + 1)) = _ from ks]; done)))
          | skip
    · have hke : k = be.length := by omega
      subst hke
      rw [List.take_length] at *
      repeat' (first | (with_reducible first | refine awp_seq ?_ | refine awp_blockS ?_ | refine awp_blockC ?_ | refine awp_blockR ?_ | refine awp_skip ?_ | refine awp_ret ?_ | refine awp_exit ?_ | refine awp_region ?_ | refine awp_condM ?_ | refine And.intro ?_ ?_ | apply gQ_merge | apply gE_merge | exact EqV_w | exact EqE_w | exact EqV_ptr | exact EqE_ptr | exact EqV_msl | exact EqE_msl | exact EqV_agg | exact EqE_agg | exact EqV_fn | exact EqE_fn | exact EqV_gd | exact EqE_gd | refine gM_splitN ?_ ?_ | refine gM_split ?_ ?_ |  refine condM_splitDN ?_ ?_ | refine condM_splitD ?_ ?_ | refine condM_splitN ?_ ?_ | refine condM_split ?_ ?_ | refine condM_any ?_ ?_ | intro _) | (simp [*]))
      all_goals (refine finW_intro () ?_ ?_; (· trivial); (refine le_of ?_ ?_ <;> first | trivial | (simp [*, List.take_length]; done)))
  · clear hf
    repeat' (first | (with_reducible first | refine awp_seq ?_ | refine awp_blockS ?_ | refine awp_blockC ?_ | refine awp_blockR ?_ | refine awp_skip ?_ | refine awp_ret ?_ | refine awp_exit ?_ | refine awp_region ?_ | refine awp_condM ?_ | refine And.intro ?_ ?_ | apply gQ_merge | apply gE_merge | exact EqV_w | exact EqE_w | exact EqV_ptr | exact EqE_ptr | exact EqV_msl | exact EqE_msl | exact EqV_agg | exact EqE_agg | exact EqV_fn | exact EqE_fn | exact EqV_gd | exact EqE_gd | refine gM_splitN ?_ ?_ | refine gM_split ?_ ?_ |  refine condM_splitDN ?_ ?_ | refine condM_splitD ?_ ?_ | refine condM_splitN ?_ ?_ | refine condM_split ?_ ?_ | refine condM_any ?_ ?_ | intro _) | (simp [*]))
end Go.Proofs.YtdgbfbgnbgfmjaaGreatDoor
namespace Go.Proofs.YtdgbfbgnbgfmjaaGreatDoor
open Go Go.Fi
set_option maxRecDepth 20000
attribute [-simp] cEntries_drop2

theorem entryS_date {l : List Acc} {e : Entry} (h : (entryS l e).2 = 0) : 0 ≤ e.date := by
  unfold entryS at h
  by_cases hh : headE e = 0
  · exact (headE_zero hh).1
  · rw [if_neg hh] at h; exact absurd h hh
theorem entE_bad {l : List Acc} {s : Int} {e : Entry} (h : ¬ (entryS l e).2 = 0) : entE l s e = (entryS l e).2 := by
  unfold entE; simp [firstS, h]
theorem entE_late {l : List Acc} {s : Int} {e : Entry} (h : (entryS l e).2 = 0) (hd : ¬ s ≤ e.date) : entE l s e = 9 := by
  unfold entE; simp [firstS, h, hd]
theorem entE_ok {l : List Acc} {s : Int} {e : Entry} (h : (entryS l e).2 = 0) (hd : s ≤ e.date) : entE l s e = 0 := by
  unfold entE; simp [firstS, h, hd]
set_option maxHeartbeats 4000000 in
theorem rCheckBook_c (b : Book) (hb : BookIn b) : RealCall Tryz.prog 71 [.agg (cBook b)] (pairI (bookS b)) true := by
  have c1 := rCheckAccounts_c b.accs hb.accs
  have hal := hb.accs
  have hlen := hb.len
  have hent := hb.ent
  clear hb
  obtain ⟨ba, be, bc⟩ := b
  unfold bookS bookH pairI cBook at *
  dsimp only at *
  by_cases h : (accsS ba).2 = 0
  · by_cases h100 : (be.length : Int) ≤ 100
    · rw [if_pos (by simp [firstS, h, h100])]
      generalize hR : bookF ba bc be 0 0 = R
      have kR : Keep (bookF ba bc be 0 0 = R) := keep hR
      clear hR
      obtain ⟨r1, r2⟩ := R
      have kent := keep hent
      have kal := keep hal
      clear hent hal
      have ha : ∀ e, entryAllS ba e = entryS ba e := fun e => by unfold entryAllS; rw [if_pos h]
      have kha := keep ha
      clear ha
      have hI : ¬ (100 : Int) < (be.length : Int) := by omega
      generalize accsS ba = q at *
      obtain ⟨q1, q2⟩ := q
      dsimp only at *
      subst h
      refine realcall_intro Tryz.func71 (by kernel_rfl) rfl (Nat.le_of_ble_eq_true (by kernel_rfl)) ?_
      simp only [Tryz.results71, Tryz.ntmps71]
      repeat' (first | (with_reducible first | refine awp_seq ?_ | refine awp_blockS ?_ | refine awp_blockC ?_ | refine awp_blockR ?_ | refine awp_skip ?_ | refine awp_ret ?_ | refine awp_exit ?_ | refine awp_region ?_ | refine awp_regionD (id := 9) 13 mixed (by decide +kernel) ?_ | refine awp_regionD (id := 12) 18 mixed (by decide +kernel) ?_ | refine awp_condM ?_ | refine And.intro ?_ ?_ | apply gQ_merge | apply gE_merge | exact EqV_w | exact EqE_w | exact EqV_ptr | exact EqE_ptr | exact EqV_msl | exact EqE_msl | exact EqV_agg | exact EqE_agg | exact EqV_fn | exact EqE_fn | exact EqV_gd | exact EqE_gd | refine gM_splitN ?_ ?_ | refine gM_split ?_ ?_ |  refine condM_splitDN ?_ ?_ | refine condM_splitD ?_ ?_ | refine condM_splitN ?_ ?_ | refine condM_split ?_ ?_ | refine condM_any ?_ ?_ | refine cw (c1) ?_ | intro _) | (simp [*, hI]) | (refine cw_eq (c1) ?_ ?_; (· (simp [*]; done))))
      refine awp_for3 (fun (k : Nat) => k ≤ be.length ∧ bookF ba bc (be.drop k) k (lastD be k) = (r1, r2)) [1] (fun (k : Nat) => [(6, .w false false (.int .i64 k))]) [0] (fun (k : Nat) => []) (fun (k : Nat) => be.length - k) (fun (_u : Unit) => r1 = 0 ∧ r2 = errUnless (winB bc 0 4000) 2) [1] (fun (_u : Unit) => []) [0] (fun (_u : Unit) => []) (0) ⟨Nat.zero_le _, kR⟩ (by simp) (by simp) (fun k hk => ?_) (fun _u hf => ?_)
      · obtain ⟨hk, hj⟩ := hk
        clear kR c1 hI
        by_cases hlt : k < be.length
        · have he := (show ∀ k, k < be.length → EntryIn (nth be k) from kent) k hlt
          have c3 := rEntry_c ba kal (nth be k) he
          rw [(show ∀ e, entryAllS ba e = entryS ba e from kha)] at c3
          unfold pairI at c3
          clear kent he kha kal
          by_cases hq : (entryS ba (nth be k)).2 = 0
          · by_cases hl : lastD be k ≤ (nth be k).date
            · rw [bookF_ok ba bc be k _ hlt (entE_ok hq hl)] at hj
              have kj := keep hj
              clear hj
              have hd := entryS_date hq
              generalize entryS ba (nth be k) = q at *
              obtain ⟨q3, q4⟩ := q
              dsimp only at *
              subst hq
              unfold cEntry at *
              cases k with
              | zero =>
                clear hl
                have kj : Keep (bookF ba bc (be.drop (0 + 1)) (0 + 1) (nth be 0).date = (r1, r2)) := kj
                have h0 : (cEntries be).take 3 = cEntry (nth be 0) := by simpa using cEntries_drop be 0 hlt
                unfold cEntry at h0
                repeat' (first | (with_reducible first | refine awp_seq ?_ | refine awp_blockS ?_ | refine awp_blockC ?_ | refine awp_blockR ?_ | refine awp_skip ?_ | refine awp_ret ?_ | refine awp_exit ?_ | refine awp_region ?_ | refine awp_regionD (id := 9) 13 mixed (by decide +kernel) ?_ | refine awp_regionD (id := 12) 18 mixed (by decide +kernel) ?_ | refine awp_condM ?_ | refine And.intro ?_ ?_ | apply gQ_merge | apply gE_merge | exact EqV_w | exact EqE_w | exact EqV_ptr | exact EqE_ptr | exact EqV_msl | exact EqE_msl | exact EqV_agg | exact EqE_agg | exact EqV_fn | exact EqE_fn | exact EqV_gd | exact EqE_gd | refine gM_splitN ?_ ?_ | refine gM_split ?_ ?_ |  refine condM_splitDN ?_ ?_ | refine condM_splitD ?_ ?_ | refine condM_splitN ?_ ?_ | refine condM_split ?_ ?_ | refine condM_any ?_ ?_ | refine cw (c3) ?_ | intro _) | (simp [*, hlt, h0, cEntry]) | (refine cw_eq (c3) ?_ ?_; (· (simp [*]; done))))
                all_goals first
                  | exact inI64 (by omega) (by omega)
                  | omega
                  | (refine loopK_normal _ _ _ _ _ 1 _ ?_ (by first | omega | (dsimp only; omega) | (simp; omega)) ?_; (· exact ⟨by omega, kj⟩); (refine le_of ?_ ?_ <;> first | trivial | (simp [*]; done)))
                  | skip
              | succ j =>
                have hl' : ¬ (nth be (j + 1)).date < (nth be j).date := by
                  have hl2 : (nth be j).date ≤ (nth be (j + 1)).date := hl
                  omega
                clear hl
                have hltj : j < be.length := by omega
                have hx : (((j + 1 : Nat) : Int)) - 1 = (j : Int) := by omega
                have hp : (0 : Int) < ((j + 1 : Nat) : Int) := by omega
                have kk : Keep (∃ k, k = j + 1) := ⟨_, rfl⟩
                generalize j + 1 = k at *
                repeat' (first | (with_reducible first | refine awp_seq ?_ | refine awp_blockS ?_ | refine awp_blockC ?_ | refine awp_blockR ?_ | refine awp_skip ?_ | refine awp_ret ?_ | refine awp_exit ?_ | refine awp_region ?_ | refine awp_regionD (id := 9) 13 mixed (by decide +kernel) ?_ | refine awp_regionD (id := 12) 18 mixed (by decide +kernel) ?_ | refine awp_condM ?_ | refine And.intro ?_ ?_ | apply gQ_merge | apply gE_merge | exact EqV_w | exact EqE_w | exact EqV_ptr | exact EqE_ptr | exact EqV_msl | exact EqE_msl | exact EqV_agg | exact EqE_agg | exact EqV_fn | exact EqE_fn | exact EqV_gd | exact EqE_gd | refine gM_splitN ?_ ?_ | refine gM_split ?_ ?_ |  refine condM_splitDN ?_ ?_ | refine condM_splitD ?_ ?_ | refine condM_splitN ?_ ?_ | refine condM_split ?_ ?_ | refine condM_any ?_ ?_ | refine cw (c3) ?_ | intro _) | (simp [*, hlt, hltj, hx, hp, hl', cEntry]) | (refine cw_eq (c3) ?_ ?_; (· (simp [*]; done))))
                all_goals first
                  | exact inI64 (by omega) (by omega)
                  | omega
                  | (refine loopK_normal _ _ _ _ _ (k + 1) _ ?_ (by first | omega | (dsimp only; omega) | (simp; omega)) ?_; (· exact ⟨by omega, kj⟩); (refine le_of ?_ ?_ <;> first | trivial | (simp [*]; done)))
                  | skip
            · rw [bookF_bad ba bc be k _ hlt (by rw [entE_late hq hl]; decide), entE_late hq hl] at hj
              injection hj with hj1 hj2
              subst hj1
              subst hj2
              have hd := entryS_date hq
              generalize entryS ba (nth be k) = q at *
              obtain ⟨q3, q4⟩ := q
              dsimp only at *
              subst hq
              unfold cEntry at *
              cases k with
              | zero => exact absurd hd hl
              | succ j =>
                have hl' : (nth be (j + 1)).date < (nth be j).date := by
                  have hl2 : ¬ (nth be j).date ≤ (nth be (j + 1)).date := hl
                  omega
                clear hl
                have hltj : j < be.length := by omega
                have hx : (((j + 1 : Nat) : Int)) - 1 = (j : Int) := by omega
                have hp : (0 : Int) < ((j + 1 : Nat) : Int) := by omega
                generalize j + 1 = k at *
                repeat' (first | (with_reducible first | refine awp_seq ?_ | refine awp_blockS ?_ | refine awp_blockC ?_ | refine awp_blockR ?_ | refine awp_skip ?_ | refine awp_ret ?_ | refine awp_exit ?_ | refine awp_region ?_ | refine awp_regionD (id := 9) 13 mixed (by decide +kernel) ?_ | refine awp_regionD (id := 12) 18 mixed (by decide +kernel) ?_ | refine awp_condM ?_ | refine And.intro ?_ ?_ | apply gQ_merge | apply gE_merge | exact EqV_w | exact EqE_w | exact EqV_ptr | exact EqE_ptr | exact EqV_msl | exact EqE_msl | exact EqV_agg | exact EqE_agg | exact EqV_fn | exact EqE_fn | exact EqV_gd | exact EqE_gd | refine gM_splitN ?_ ?_ | refine gM_split ?_ ?_ |  refine condM_splitDN ?_ ?_ | refine condM_splitD ?_ ?_ | refine condM_splitN ?_ ?_ | refine condM_split ?_ ?_ | refine condM_any ?_ ?_ | refine cw (c3) ?_ | intro _) | (simp [*, hlt, hltj, hx, hp, hl', cEntry]) | (refine cw_eq (c3) ?_ ?_; (· (simp [*]; done))))
                all_goals first
                  | exact inI64 (by omega) (by omega)
                  | omega
                  | skip
          · rw [bookF_bad ba bc be k _ hlt (by rw [entE_bad hq]; exact hq), entE_bad hq] at hj
            injection hj with hj1 hj2
            subst hj1
            rw [hj2] at c3 hq
            clear hj2
            generalize entryS ba (nth be k) = q at *
            unfold cEntry at *
            repeat' (first | (with_reducible first | refine awp_seq ?_ | refine awp_blockS ?_ | refine awp_blockC ?_ | refine awp_blockR ?_ | refine awp_skip ?_ | refine awp_ret ?_ | refine awp_exit ?_ | refine awp_region ?_ | refine awp_regionD (id := 9) 13 mixed (by decide +kernel) ?_ | refine awp_regionD (id := 12) 18 mixed (by decide +kernel) ?_ | refine awp_condM ?_ | refine And.intro ?_ ?_ | apply gQ_merge | apply gE_merge | exact EqV_w | exact EqE_w | exact EqV_ptr | exact EqE_ptr | exact EqV_msl | exact EqE_msl | exact EqV_agg | exact EqE_agg | exact EqV_fn | exact EqE_fn | exact EqV_gd | exact EqE_gd | refine gM_splitN ?_ ?_ | refine gM_split ?_ ?_ |  refine condM_splitDN ?_ ?_ | refine condM_splitD ?_ ?_ | refine condM_splitN ?_ ?_ | refine condM_split ?_ ?_ | refine condM_any ?_ ?_ | refine cw (c3) ?_ | intro _) | (simp [*, hlt, hq, cEntry]) | (refine cw_eq (c3) ?_ ?_; (· (simp [*]; done))))
            all_goals first
              | exact inI64 (by omega) (by omega)
              | omega
              | skip
        · rw [bookF_end ba bc be k _ (by omega)] at hj
          injection hj with hj1 hj2
          have hke : k = be.length := by omega
          subst hke
          have kj := keep hj1
          have kj2 := keep hj2.symm
          clear hj1 hj2 kent
          repeat' (first | (with_reducible first | refine awp_seq ?_ | refine awp_blockS ?_ | refine awp_blockC ?_ | refine awp_blockR ?_ | refine awp_skip ?_ | refine awp_ret ?_ | refine awp_exit ?_ | refine awp_region ?_ | refine awp_regionD (id := 9) 13 mixed (by decide +kernel) ?_ | refine awp_regionD (id := 12) 18 mixed (by decide +kernel) ?_ | refine awp_condM ?_ | refine And.intro ?_ ?_ | apply gQ_merge | apply gE_merge | exact EqV_w | exact EqE_w | exact EqV_ptr | exact EqE_ptr | exact EqV_msl | exact EqE_msl | exact EqV_agg | exact EqE_agg | exact EqV_fn | exact EqE_fn | exact EqV_gd | exact EqE_gd | refine gM_splitN ?_ ?_ | refine gM_split ?_ ?_ |  refine condM_splitDN ?_ ?_ | refine condM_splitD ?_ ?_ | refine condM_splitN ?_ ?_ | refine condM_split ?_ ?_ | refine condM_any ?_ ?_ | intro _) | (simp [*]))
          all_goals (refine finW_intro () ?_ ?_; (· first | exact ⟨(show 0 = r1 from kj).symm, kj2⟩ | trivial); (refine le_of ?_ ?_ <;> first | trivial | (simp [*]; done)))
      · obtain ⟨rfl, rfl⟩ := hf
        clear kR kent kha kal c1
        have c2 := rWithin_c bc 0 4000
        generalize winB bc 0 4000 = w at *
        repeat' (first | (with_reducible first | refine awp_seq ?_ | refine awp_blockS ?_ | refine awp_blockC ?_ | refine awp_blockR ?_ | refine awp_skip ?_ | refine awp_ret ?_ | refine awp_exit ?_ | refine awp_region ?_ | refine awp_regionD (id := 9) 13 mixed (by decide +kernel) ?_ | refine awp_regionD (id := 12) 18 mixed (by decide +kernel) ?_ | refine awp_condM ?_ | refine And.intro ?_ ?_ | apply gQ_merge | apply gE_merge | exact EqV_w | exact EqE_w | exact EqV_ptr | exact EqE_ptr | exact EqV_msl | exact EqE_msl | exact EqV_agg | exact EqE_agg | exact EqV_fn | exact EqE_fn | exact EqV_gd | exact EqE_gd | refine gM_splitN ?_ ?_ | refine gM_split ?_ ?_ |  refine condM_splitDN ?_ ?_ | refine condM_splitD ?_ ?_ | refine condM_splitN ?_ ?_ | refine condM_split ?_ ?_ | refine condM_any ?_ ?_ | refine cw (c2) ?_ | intro _) | (simp [*]) | (refine cw_eq (c2) ?_ ?_; (· (simp [*]; done))))
        all_goals (subst w; rfl)
    · rw [if_neg (by simp [firstS, h, h100])]
      have hI : (100 : Int) < (be.length : Int) := by omega
      clear hent hal
      simp only [firstS, h, h100, if_pos]
      generalize accsS ba = q at *
      obtain ⟨q1, q2⟩ := q
      dsimp only at *
      subst h
      refine realcall_intro Tryz.func71 (by kernel_rfl) rfl (Nat.le_of_ble_eq_true (by kernel_rfl)) ?_
      simp only [Tryz.results71, Tryz.ntmps71]
      repeat' (first | (with_reducible first | refine awp_seq ?_ | refine awp_blockS ?_ | refine awp_blockC ?_ | refine awp_blockR ?_ | refine awp_skip ?_ | refine awp_ret ?_ | refine awp_exit ?_ | refine awp_region ?_ | refine awp_regionD (id := 9) 13 mixed (by decide +kernel) ?_ | refine awp_regionD (id := 12) 18 mixed (by decide +kernel) ?_ | refine awp_condM ?_ | refine And.intro ?_ ?_ | apply gQ_merge | apply gE_merge | exact EqV_w | exact EqE_w | exact EqV_ptr | exact EqE_ptr | exact EqV_msl | exact EqE_msl | exact EqV_agg | exact EqE_agg | exact EqV_fn | exact EqE_fn | exact EqV_gd | exact EqE_gd | refine gM_splitN ?_ ?_ | refine gM_split ?_ ?_ |  refine condM_splitDN ?_ ?_ | refine condM_splitD ?_ ?_ | refine condM_splitN ?_ ?_ | refine condM_split ?_ ?_ | refine condM_any ?_ ?_ | refine cw (c1) ?_ | intro _) | (simp [*, hI]) | (refine cw_eq (c1) ?_ ?_; (· (simp [*]; done))))
      all_goals simp
  · rw [if_neg (by simp [firstS, h])]
    simp only [firstS, h, if_false]
    generalize accsS ba = q at *
    clear hent hal
    refine realcall_intro Tryz.func71 (by kernel_rfl) rfl (Nat.le_of_ble_eq_true (by kernel_rfl)) ?_
    simp only [Tryz.results71, Tryz.ntmps71]
    repeat' (first | (with_reducible first | refine awp_seq ?_ | refine awp_blockS ?_ | refine awp_blockC ?_ | refine awp_blockR ?_ | refine awp_skip ?_ | refine awp_ret ?_ | refine awp_exit ?_ | refine awp_region ?_ | refine awp_regionD (id := 9) 13 mixed (by decide +kernel) ?_ | refine awp_regionD (id := 12) 18 mixed (by decide +kernel) ?_ | refine awp_condM ?_ | refine And.intro ?_ ?_ | apply gQ_merge | apply gE_merge | exact EqV_w | exact EqE_w | exact EqV_ptr | exact EqE_ptr | exact EqV_msl | exact EqE_msl | exact EqV_agg | exact EqE_agg | exact EqV_fn | exact EqE_fn | exact EqV_gd | exact EqE_gd | refine gM_splitN ?_ ?_ | refine gM_split ?_ ?_ |  refine condM_splitDN ?_ ?_ | refine condM_splitD ?_ ?_ | refine condM_splitN ?_ ?_ | refine condM_split ?_ ?_ | refine condM_any ?_ ?_ | refine cw (c1) ?_ | intro _) | (simp [*, h]) | (refine cw_eq (c1) ?_ ?_; (· (simp [*]; done))))
end Go.Proofs.YtdgbfbgnbgfmjaaGreatDoor

