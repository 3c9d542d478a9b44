/- Contracts of functions for this claim: lemmas alone. -/
import Derived.Test.YtlcimflkjfbaoaaGreatP136
set_option linter.unusedSimpArgs false
set_option linter.unusedVariables false
namespace Go.Proofs.YtlcimflkjfbaoaaGreat
open Go Go.Fi
set_option maxRecDepth 20000

/-! ### the accounts of the law: a fare that is paid, and a refund -/
abbrev bMuch : ByteArray := ⟨#[109, 117, 99, 104]⟩
abbrev bRight : ByteArray := ⟨#[114, 105, 103, 104, 116]⟩
def tripX (x : Int) : Trip := ⟨5, bMuch, x, 0, 0⟩
theorem nameB_much : nameB bMuch = true := by decide
theorem nameB_right : nameB bRight = true := by decide
theorem money_ok {l : List Int} (h : ∀ x ∈ l, 0 ≤ x ∧ x ≤ 1000000000) : moneyE l = 0 := by
  unfold moneyE
  have e : (l.any fun x => !winB x 0 1000000000) = false := by
    rw [List.any_eq_false]
    intro x hx
    have := h x hx
    simp [winB]; omega
  rw [e]; rfl
theorem fareChk_x {x : Int} (h0 : 0 ≤ x) (h1 : x ≤ 1000000000) : fareChk 0 (tripX x) = 0 := by
  have hm : moneyE [x, 0, 0] = 0 := money_ok (fun y hy => by
    simp only [List.mem_cons, List.not_mem_nil, or_false] at hy
    rcases hy with rfl | rfl | rfl <;> omega)
  unfold fareChk tripX noteE
  dsimp only
  rw [hm, nameB_much, decide_eq_true h0]
  rfl
theorem lnX (x : Int) (h : 0 < x) : fareLn exRule (tripX x) = addK exRule (partsS exRule x) [⟨exRule.cash, x⟩] 3 := fareL_one exRule x _ h
theorem fX_zero {x : Int} (h0 : 0 < x) (h1 : x ≤ 1000000000) : (fX (tripX x)).2 = 0 := by
  have hc := fareChk_x (x := x) (by omega) h1
  have hpb : ∀ k, k < 3 → 0 ≤ nth (partsS exRule x) k ∧ nth (partsS exRule x) k ≤ 1000000000 := fun k hk => ⟨parts_pos shares_x x k hk, by have := parts_le shares_x (f := x) (by omega) k hk; omega⟩
  have hamt := addK_amt exRule (partsS exRule x) x (by omega) h1 hpb 3 (Nat.le_refl _)
  have hkl : ∀ k, 1 ≤ (addK exRule (partsS exRule x) [⟨exRule.cash, x⟩] k).length ∧ (addK exRule (partsS exRule x) [⟨exRule.cash, x⟩] k).length ≤ 1 + k := by
    intro k
    induction k with
    | zero => simp
    | succ k ih =>
      have h2 := addL_len (addK exRule (partsS exRule x) [⟨exRule.cash, x⟩] k) (nth (three exRule) k) (-(nth (partsS exRule x) k))
      have h3 : (addK exRule (partsS exRule x) [⟨exRule.cash, x⟩] k).length ≤ (addL (addK exRule (partsS exRule x) [⟨exRule.cash, x⟩] k) (nth (three exRule) k) (-(nth (partsS exRule x) k))).length := by
        unfold addL; split <;> simp
      simp only [addK]
      omega
  have h3 := hkl 3
  have hmu : muchB ⟨(tripX x).date, (tripX x).note, fareLn exRule (tripX x)⟩ = false := by
    unfold muchB
    rw [lnX x h0]
    dsimp only
    rw [decide_eq_false (by omega), Bool.or_false, List.any_eq_false]
    intro y hy
    have := hamt y hy
    simp [greatB, smallB, winB]; omega
  unfold fX fareR
  rw [if_pos hc, if_neg (by rw [lnX x h0]; omega)]
  unfold largestS
  rw [if_neg (by rw [hmu]; decide)]
theorem putS_addL {n a : ByteArray} (h : a ≠ n) (L : List Line) (v : Int) : putS n (addL L a v) = putS n L := by
  unfold addL
  split
  · rfl
  · rw [putS_snoc, if_neg h, Int.add_zero]
theorem cash_x {x : Int} (h0 : 0 < x) : putS exRule.cash (fareLn exRule (tripX x)) = x := by
  rw [lnX x h0]
  have key : ∀ k, k ≤ 3 → putS exRule.cash (addK exRule (partsS exRule x) [⟨exRule.cash, x⟩] k) = x := by
    intro k
    induction k with
    | zero => intro _; simp [putS]
    | succ k ih =>
      intro hk
      have hne : ∀ k, k < 3 → nth (three exRule) k ≠ exRule.cash := by decide
      simp only [addK]
      rw [putS_addL (hne k (by omega)), ih (by omega)]
  exact key 3 (Nat.le_refl _)
/-- the entry of a refund -/
def backX (x : Int) : Entry := ⟨5, bMuch, negL (fareLn exRule (tripX x))⟩
theorem backX_in {x : Int} (h0 : 0 < x) (h1 : x ≤ 1000000000) : (entryS exAccs (backX x)).2 = 0 ∧ EntryIn (backX x) := by
  have hz := fX_zero h0 h1
  obtain ⟨a, b, _⟩ := fX_entry hz
  have hin := fX_in (t := tripX x) (by decide : bMuch.size < 1000000) hz
  rw [b] at a hin
  have := entryS_neg a
  exact ⟨this, ⟨(by decide : bMuch.size < 1000000), by show (negL (fareLn exRule (tripX x))).length < 10000; rw [negL_len']; exact hin.len⟩⟩
theorem bookX_more {b : Book} {k : Nat} (hb : BookX b k) (hk : k < 100) {e : Entry} (he : (entryS exAccs e).2 = 0) (hin : EntryIn e) : postE b e = 0 ∧ BookX (postS b e) (k + 1) := by
  have hd := (headE_zero (entryS_zero he).1)
  have hq : 0 ≤ e.date.tdiv 30 := by rw [Int.tdiv_eq_ediv_of_nonneg hd.1]; omega
  have hl := hb.len
  refine ⟨?_, hb.accs, hb.closed, ?_, post_right hb.right (by rw [hb.accs]; exact he) (by omega), postS_in hb.bin hin (by omega)⟩
  · unfold postE
    rw [hb.accs, he, hb.closed, decide_eq_true hq, decide_eq_true (by omega)]
    rfl
  · unfold postS
    dsimp only
    rw [insAt_one _ _ _ (postAt_le _ _)]
    omega
def book0 : Book := ⟨exAccs, [], 0⟩
theorem book0_x : BookX book0 0 := ⟨rfl, rfl, Nat.le_refl _, bookK_0, accsIn_ex, (by decide : 0 < 10000), fun k hk => absurd hk (Nat.not_lt_zero _)⟩
theorem twice (P R : Entry) (hP : P.date = 5) : (postS (postS book0 P) R).entries = if R.date < 5 then [R, P] else [P, R] := by
  have e1 : postS book0 P = ⟨exAccs, [P], 0⟩ := by
    unfold postS book0
    simp [insAt, postAt]
  rw [e1]
  unfold postS
  simp only [postAt, hP]
  split
  · rw [if_neg (by omega)]; simp [insAt]
  · rw [if_pos (by omega)]; simp [insAt]
/-- what the cash comes to -/
theorem cash_left (h m : Int) (h0 : 0 ≤ h) (m0 : 0 < m) (hb : h + m ≤ 1000000000) : balOfS (postS (postS book0 (fX (tripX (h + m))).1) (backX m)) exRule.cash 5 = (h, 0) := by
  have z1 := fX_zero (x := h + m) (by omega) hb
  obtain ⟨a1, a2, _⟩ := fX_entry z1
  have i1 := fX_in (t := tripX (h + m)) (by decide : bMuch.size < 1000000) z1
  obtain ⟨r1, r2⟩ := backX_in (x := m) m0 (by omega)
  have b1 := (bookX_more book0_x (by decide) a1 i1).2
  have b2 := (bookX_more b1 (by decide) r1 r2).2
  have hE : balE (postS (postS book0 (fX (tripX (h + m))).1) (backX m)) exRule.cash 5 = 0 := by
    unfold balE
    rw [b2.right, b2.accs]
    decide +kernel
  unfold balOfS
  rw [if_pos hE, twice _ _ (by rw [a2]; rfl), if_neg (by show ¬ (5 : Int) < 5; decide)]
  have p1 : putS exRule.cash (fX (tripX (h + m))).1.lines = h + m := by rw [a2]; exact cash_x (by omega)
  have p2 : putS exRule.cash (backX m).lines = -m := by
    show putS exRule.cash (negL (fareLn exRule (tripX m))) = -m
    rw [putS_neg, cash_x m0]
  have d1 : (fX (tripX (h + m))).1.date = 5 := by rw [a2]; rfl
  simp only [balS]
  rw [p1, p2, d1]
  have d2 : (backX m).date = 5 := rfl
  rw [d2]
  simp
  omega
end Go.Proofs.YtlcimflkjfbaoaaGreat
namespace Go.Proofs.YtlcimflkjfbaoaaGreat
open Go Go.Fi
set_option maxRecDepth 20000

/-! ### the law's function -/
def segA (l : List Seg) : List AV := (cSegs l).map (.w false false)
@[simp] theorem segA_len (l : List Seg) : (segA l).length = l.length * 3 := by simp [segA]
@[simp] theorem segA_nil : segA [] = [] := rfl
@[simp] theorem segA_snoc (l : List Seg) (z m s : Int) : segA l ++ [.w false false (.int .i64 z), .w false false (.int .i64 m), .w false false (.int .i64 s)] = segA (l ++ [⟨z, m, s⟩]) := by simp [segA, cSegs, cSeg]
@[simp] theorem segA_lt (l : List Seg) (n : Nat) : AV.lt.ltL n (segA l) = true := ltL_map n false false _
@[simp] theorem segA_self {D : List Nat} {h : Heap} {n n' : Nat} (l : List Seg) : cellsLe D h n n' (segA l) (segA l) = True := eq_true (cellsLe_w false false _)
@[simp high] theorem segA_frz (h : Heap) (d : Nat) (l : List Seg) : (segA l).mapM (frz h d) = some (cSegs l) := mapM_frz h d false false _
def segB (s : Seg) : Bool := winB s.zone 0 1 && winB s.metres 0 50000 && winB s.secs 1 3600
theorem segB_ok {s : Seg} (h : segB s = true) : SegOk s := by
  unfold segB at h
  simp only [Bool.and_eq_true, winB_iff] at h
  exact ⟨by omega, by omega, by omega⟩
theorem driven_le {l : List Seg} (ok : SegsOk l) : driven ptsS l ≤ driven bothS l := by
  have key : ∀ L : List Seg, (∀ s ∈ L, ptsS s ≤ bothS s ∧ 0 ≤ ptsS s) → sumP ptsS L ≤ sumP bothS L ∧ 0 ≤ sumP ptsS L := by
    intro L
    induction L with
    | nil => intro _; simp
    | cons x r ih =>
      intro h
      have h1 := ih (fun s hs => h s (List.mem_cons_of_mem _ hs))
      have h2 := h x (List.mem_cons_self ..)
      simp only [sumP, List.map_cons, List.sum_cons] at h1 ⊢
      omega
  have h := key l (fun s hs => by
    obtain ⟨k, hk, e⟩ := List.mem_iff_getElem.1 hs
    have o := ok.seg k hk
    have e2 : nth l k = s := by simp [nth, List.getD_eq_getElem?_getD, List.getElem?_eq_getElem hk, e]
    rw [e2] at o
    have hm := o.m
    have hs := o.s
    unfold ptsS bothS
    omega)
  unfold driven
  rw [Int.tdiv_eq_ediv_of_nonneg h.2, Int.tdiv_eq_ediv_of_nonneg (by omega)]
  have := Int.ediv_le_ediv (c := 1000) (by decide) h.1
  omega
set_option maxHeartbeats 16000000 in
theorem topAccountLaw_c (l : List Seg) (more slack : Int) : RealCall Tryz.prog 3 [.sl l.length (cSegs l), .int .i64 more, .int .i64 slack] (.bool true) true := by
  have c0 := accounted_c
  by_cases hg : (l.length < 1 ∨ 6 < l.length) ∨ (winB more 1 100000 = false ∨ winB slack 0 100000 = false)
  · have w1 := rWithin_c more 1 100000
    have w2 := rWithin_c slack 0 100000
    by_cases h1 : l.length < 1
    · have h1I : (l.length : Int) < 1 := by omega
      refine realcall_intro Tryz.func3 (by kernel_rfl) rfl (Nat.le_of_ble_eq_true (by kernel_rfl)) ?_
      simp only [Tryz.results3, Tryz.ntmps3]
      repeat' (first | (with_reducible first | refine awp_seq ?_ | refine awp_blockS ?_ | refine awp_blockC ?_ | refine awp_blockR ?_ | refine awp_skip ?_ | refine awp_ret ?_ | refine awp_exit ?_ | refine awp_region ?_ | refine awp_regionD (id := 12) 7 mixed (by decide +kernel) ?_ | refine awp_regionS (id := 13) [0, 1, 2, 3, 4, 5, 6] [7, 8] [[], [], [], [], [], [.new 0], []] [[.new 0], []] mixed (by decide +kernel) ?_ | refine awp_regionS (id := 14) [0, 1, 2, 3, 4, 5, 6] [7, 8] [[], [], [], [], [], [.new 0], []] [[.new 0], []] mixed (by decide +kernel) ?_ | refine awp_regionS (id := 24) [0, 1, 2, 3, 4, 5, 6, 7, 8, 9] [10, 11] [[], [], [], [], [], [], [], [], [.new 0], []] [[.new 0], []] mixed (by decide +kernel) ?_ | refine awp_regionS (id := 25) [0, 1, 2, 3, 4, 5, 6, 7] [8, 9] [[], [], [], [], [], [], [.new 0], []] [[.new 0], []] mixed (by decide +kernel) ?_ | refine awp_regionS (id := 28) [0, 1, 2, 3, 4, 5, 6, 7] [8, 9] [[], [], [], [], [], [], [.new 0], []] [[.new 0], []] mixed (by decide +kernel) ?_ | refine awp_condM ?_ | refine And.intro ?_ ?_ | apply gQ_merge | apply gE_merge | exact EqV_w | exact EqE_w | exact EqV_ptr | exact EqE_ptr | exact EqV_msl | exact EqE_msl | exact EqV_agg | exact EqE_agg | exact EqV_fn | exact EqE_fn | exact EqV_gd | exact EqE_gd | refine gM_splitN ?_ ?_ | refine gM_split ?_ ?_ |  refine condM_splitDN ?_ ?_ | refine condM_splitD ?_ ?_ | refine condM_splitN ?_ ?_ | refine condM_split ?_ ?_ | refine condM_any ?_ ?_ | refine cw (c0) ?_ | intro _) | (simp [*, h1, h1I]) | (refine cw_eq (c0) ?_ ?_; (· (simp [*]; done))))
    · by_cases h2 : 6 < l.length
      · have h1I : ¬ (l.length : Int) < 1 := by omega
        have h2I : (6 : Int) < (l.length : Int) := by omega
        refine realcall_intro Tryz.func3 (by kernel_rfl) rfl (Nat.le_of_ble_eq_true (by kernel_rfl)) ?_
        simp only [Tryz.results3, Tryz.ntmps3]
        repeat' (first | (with_reducible first | refine awp_seq ?_ | refine awp_blockS ?_ | refine awp_blockC ?_ | refine awp_blockR ?_ | refine awp_skip ?_ | refine awp_ret ?_ | refine awp_exit ?_ | refine awp_region ?_ | refine awp_regionD (id := 12) 7 mixed (by decide +kernel) ?_ | refine awp_regionS (id := 13) [0, 1, 2, 3, 4, 5, 6] [7, 8] [[], [], [], [], [], [.new 0], []] [[.new 0], []] mixed (by decide +kernel) ?_ | refine awp_regionS (id := 14) [0, 1, 2, 3, 4, 5, 6] [7, 8] [[], [], [], [], [], [.new 0], []] [[.new 0], []] mixed (by decide +kernel) ?_ | refine awp_regionS (id := 24) [0, 1, 2, 3, 4, 5, 6, 7, 8, 9] [10, 11] [[], [], [], [], [], [], [], [], [.new 0], []] [[.new 0], []] mixed (by decide +kernel) ?_ | refine awp_regionS (id := 25) [0, 1, 2, 3, 4, 5, 6, 7] [8, 9] [[], [], [], [], [], [], [.new 0], []] [[.new 0], []] mixed (by decide +kernel) ?_ | refine awp_regionS (id := 28) [0, 1, 2, 3, 4, 5, 6, 7] [8, 9] [[], [], [], [], [], [], [.new 0], []] [[.new 0], []] mixed (by decide +kernel) ?_ | refine awp_condM ?_ | refine And.intro ?_ ?_ | apply gQ_merge | apply gE_merge | exact EqV_w | exact EqE_w | exact EqV_ptr | exact EqE_ptr | exact EqV_msl | exact EqE_msl | exact EqV_agg | exact EqE_agg | exact EqV_fn | exact EqE_fn | exact EqV_gd | exact EqE_gd | refine gM_splitN ?_ ?_ | refine gM_split ?_ ?_ |  refine condM_splitDN ?_ ?_ | refine condM_splitD ?_ ?_ | refine condM_splitN ?_ ?_ | refine condM_split ?_ ?_ | refine condM_any ?_ ?_ | refine cw (c0) ?_ | intro _) | (simp [*, h1, h1I, h2, h2I]) | (refine cw_eq (c0) ?_ ?_; (· (simp [*]; done))))
      · have h1I : ¬ (l.length : Int) < 1 := by omega
        have h2I : ¬ (6 : Int) < (l.length : Int) := by omega
        have hg2 : winB more 1 100000 = false ∨ winB slack 0 100000 = false := by
          rcases hg with hg | hg
          · omega
          · exact hg
        clear hg
        cases e1 : winB more 1 100000 with
        | false =>
          rw [e1] at w1
          clear hg2 e1 w2
          refine realcall_intro Tryz.func3 (by kernel_rfl) rfl (Nat.le_of_ble_eq_true (by kernel_rfl)) ?_
          simp only [Tryz.results3, Tryz.ntmps3]
          repeat' (first | (with_reducible first | refine awp_seq ?_ | refine awp_blockS ?_ | refine awp_blockC ?_ | refine awp_blockR ?_ | refine awp_skip ?_ | refine awp_ret ?_ | refine awp_exit ?_ | refine awp_region ?_ | refine awp_regionD (id := 12) 7 mixed (by decide +kernel) ?_ | refine awp_regionS (id := 13) [0, 1, 2, 3, 4, 5, 6] [7, 8] [[], [], [], [], [], [.new 0], []] [[.new 0], []] mixed (by decide +kernel) ?_ | refine awp_regionS (id := 14) [0, 1, 2, 3, 4, 5, 6] [7, 8] [[], [], [], [], [], [.new 0], []] [[.new 0], []] mixed (by decide +kernel) ?_ | refine awp_regionS (id := 24) [0, 1, 2, 3, 4, 5, 6, 7, 8, 9] [10, 11] [[], [], [], [], [], [], [], [], [.new 0], []] [[.new 0], []] mixed (by decide +kernel) ?_ | refine awp_regionS (id := 25) [0, 1, 2, 3, 4, 5, 6, 7] [8, 9] [[], [], [], [], [], [], [.new 0], []] [[.new 0], []] mixed (by decide +kernel) ?_ | refine awp_regionS (id := 28) [0, 1, 2, 3, 4, 5, 6, 7] [8, 9] [[], [], [], [], [], [], [.new 0], []] [[.new 0], []] mixed (by decide +kernel) ?_ | refine awp_condM ?_ | refine And.intro ?_ ?_ | apply gQ_merge | apply gE_merge | exact EqV_w | exact EqE_w | exact EqV_ptr | exact EqE_ptr | exact EqV_msl | exact EqE_msl | exact EqV_agg | exact EqE_agg | exact EqV_fn | exact EqE_fn | exact EqV_gd | exact EqE_gd | refine gM_splitN ?_ ?_ | refine gM_split ?_ ?_ |  refine condM_splitDN ?_ ?_ | refine condM_splitD ?_ ?_ | refine condM_splitN ?_ ?_ | refine condM_split ?_ ?_ | refine condM_any ?_ ?_ | refine cw (c0) ?_ | refine cw (w1) ?_ | intro _) | (simp [*, h1, h1I, h2, h2I]) | (refine cw_eq (c0) ?_ ?_; (· (simp [*]; done))) | (refine cw_eq (w1) ?_ ?_; (· (simp [*]; done))))
        | true =>
          rw [e1] at w1
          have e2 : winB slack 0 100000 = false := by
            rcases hg2 with h | h
            · rw [e1] at h; cases h
            · exact h
          rw [e2] at w2
          clear hg2 e1 e2
          refine realcall_intro Tryz.func3 (by kernel_rfl) rfl (Nat.le_of_ble_eq_true (by kernel_rfl)) ?_
          simp only [Tryz.results3, Tryz.ntmps3]
          repeat' (first | (with_reducible first | refine awp_seq ?_ | refine awp_blockS ?_ | refine awp_blockC ?_ | refine awp_blockR ?_ | refine awp_skip ?_ | refine awp_ret ?_ | refine awp_exit ?_ | refine awp_region ?_ | refine awp_regionD (id := 12) 7 mixed (by decide +kernel) ?_ | refine awp_regionS (id := 13) [0, 1, 2, 3, 4, 5, 6] [7, 8] [[], [], [], [], [], [.new 0], []] [[.new 0], []] mixed (by decide +kernel) ?_ | refine awp_regionS (id := 14) [0, 1, 2, 3, 4, 5, 6] [7, 8] [[], [], [], [], [], [.new 0], []] [[.new 0], []] mixed (by decide +kernel) ?_ | refine awp_regionS (id := 24) [0, 1, 2, 3, 4, 5, 6, 7, 8, 9] [10, 11] [[], [], [], [], [], [], [], [], [.new 0], []] [[.new 0], []] mixed (by decide +kernel) ?_ | refine awp_regionS (id := 25) [0, 1, 2, 3, 4, 5, 6, 7] [8, 9] [[], [], [], [], [], [], [.new 0], []] [[.new 0], []] mixed (by decide +kernel) ?_ | refine awp_regionS (id := 28) [0, 1, 2, 3, 4, 5, 6, 7] [8, 9] [[], [], [], [], [], [], [.new 0], []] [[.new 0], []] mixed (by decide +kernel) ?_ | refine awp_condM ?_ | refine And.intro ?_ ?_ | apply gQ_merge | apply gE_merge | exact EqV_w | exact EqE_w | exact EqV_ptr | exact EqE_ptr | exact EqV_msl | exact EqE_msl | exact EqV_agg | exact EqE_agg | exact EqV_fn | exact EqE_fn | exact EqV_gd | exact EqE_gd | refine gM_splitN ?_ ?_ | refine gM_split ?_ ?_ |  refine condM_splitDN ?_ ?_ | refine condM_splitD ?_ ?_ | refine condM_splitN ?_ ?_ | refine condM_split ?_ ?_ | refine condM_any ?_ ?_ | refine cw (c0) ?_ | refine cw (w1) ?_ | refine cw (w2) ?_ | intro _) | (simp [*, h1, h1I, h2, h2I]) | (refine cw_eq (c0) ?_ ?_; (· (simp [*]; done))) | (refine cw_eq (w1) ?_ ?_; (· (simp [*]; done))) | (refine cw_eq (w2) ?_ ?_; (· (simp [*]; done))))
  · have h1 : ¬ l.length < 1 := fun h => hg (.inl (.inl h))
    have h2 : ¬ 6 < l.length := fun h => hg (.inl (.inr h))
    have e1 : winB more 1 100000 = true := by
      cases h : winB more 1 100000 with
      | true => rfl
      | false => exact absurd (.inr (.inl h)) hg
    have e2 : winB slack 0 100000 = true := by
      cases h : winB slack 0 100000 with
      | true => rfl
      | false => exact absurd (.inr (.inr h)) hg
    have w1 := rWithin_c more 1 100000
    have w2 := rWithin_c slack 0 100000
    rw [e1] at w1
    rw [e2] at w2
    rw [winB_iff] at e1 e2
    have h1I : ¬ (l.length : Int) < 1 := by omega
    have h2I : ¬ (6 : Int) < (l.length : Int) := by omega
    have cc := city_c
    have ke := keep (And.intro e1 e2)
    clear hg e1 e2
    unfold cCity at cc
    refine realcall_intro Tryz.func3 (by kernel_rfl) rfl (Nat.le_of_ble_eq_true (by kernel_rfl)) ?_
    simp only [Tryz.results3, Tryz.ntmps3]
    repeat' (first | (with_reducible first | refine awp_seq ?_ | refine awp_blockS ?_ | refine awp_blockC ?_ | refine awp_blockR ?_ | refine awp_skip ?_ | refine awp_ret ?_ | refine awp_exit ?_ | refine awp_region ?_ | refine awp_regionD (id := 12) 7 mixed (by decide +kernel) ?_ | refine awp_regionS (id := 13) [0, 1, 2, 3, 4, 5, 6] [7, 8] [[], [], [], [], [], [.new 0], []] [[.new 0], []] mixed (by decide +kernel) ?_ | refine awp_regionS (id := 14) [0, 1, 2, 3, 4, 5, 6] [7, 8] [[], [], [], [], [], [.new 0], []] [[.new 0], []] mixed (by decide +kernel) ?_ | refine awp_regionS (id := 24) [0, 1, 2, 3, 4, 5, 6, 7, 8, 9] [10, 11] [[], [], [], [], [], [], [], [], [.new 0], []] [[.new 0], []] mixed (by decide +kernel) ?_ | refine awp_regionS (id := 25) [0, 1, 2, 3, 4, 5, 6, 7] [8, 9] [[], [], [], [], [], [], [.new 0], []] [[.new 0], []] mixed (by decide +kernel) ?_ | refine awp_regionS (id := 28) [0, 1, 2, 3, 4, 5, 6, 7] [8, 9] [[], [], [], [], [], [], [.new 0], []] [[.new 0], []] mixed (by decide +kernel) ?_ | refine awp_condM ?_ | refine And.intro ?_ ?_ | apply gQ_merge | apply gE_merge | exact EqV_w | exact EqE_w | exact EqV_ptr | exact EqE_ptr | exact EqV_msl | exact EqE_msl | exact EqV_agg | exact EqE_agg | exact EqV_fn | exact EqE_fn | exact EqV_gd | exact EqE_gd | refine gM_splitN ?_ ?_ | refine gM_split ?_ ?_ |  refine condM_splitDN ?_ ?_ | refine condM_splitD ?_ ?_ | refine condM_splitN ?_ ?_ | refine condM_split ?_ ?_ | refine condM_any ?_ ?_ | refine cw (c0) ?_ | refine cw (w1) ?_ | refine cw (w2) ?_ | refine cw (cc) ?_ | intro _) | (simp [*, h1, h1I, h2, h2I]) | (refine cw_eq (c0) ?_ ?_; (· (simp [*]; done))) | (refine cw_eq (w1) ?_ ?_; (· (simp [*]; done))) | (refine cw_eq (w2) ?_ ?_; (· (simp [*]; done))) | (refine cw_eq (cc) ?_ ?_; (· (simp [*]; done))))
    clear c0 w1 w2 cc
    refine awp_for4 4 (fun (k : Nat) => k ≤ l.length ∧ (∀ j, j < k → SegOk (nth l j))) [0, 1, 2, 8] (fun (k : Nat) => [(9, .w false false (.int .i64 k))]) [1] (fun (k : Nat) => [(2, [.w false false (.int .i64 0), .w false false (.int .i64 36000), .w false false (.bool false), .msl 1 1 1 0 1, .msl 3 (k * 3) 3 0 k]), (3, segA (l.take k))]) (fun (k : Nat) => l.length - k) (fun (_u : Unit) => ∀ j, j < l.length → SegOk (nth l j)) [1, 2, 8] (fun (_u : Unit) => []) [] (fun (_u : Unit) => [(2, [.w false false (.int .i64 0), .w false false (.int .i64 36000), .w false false (.bool false), .w false false (.sl 1 [.int .i64 0]), .w false false (.sl l.length (cSegs l))])]) (0) ⟨Nat.zero_le _, fun j hj => absurd hj (Nat.not_lt_zero _)⟩ (le_gen [] (by simp) (by simp)) (fun k hk => ?_) (fun _u hf => ?_)
    · obtain ⟨hk, hj⟩ := hk
      by_cases hlt : k < l.length
      · have htk := take_succ_nth l k hlt
        have hll := take_len l k hk
        have kj := keep hj
        have hkb : k < 100 := by omega
        clear hj
        have key : segB (nth l k) = true → ∀ j, j < k + 1 → SegOk (nth l j) := fun hb j hj => by
          rcases Nat.lt_or_ge j k with h | h
          · exact (show ∀ j, j < k → SegOk (nth l j) from kj) j h
          · obtain rfl : j = k := by omega
            exact segB_ok hb
        have kk := keep key
        clear key
        generalize hsg : nth l k = s at *
        generalize htl : l.take k = L at *
        obtain ⟨z, m, sc⟩ := s
        have kt := keep htk
        clear htk
        have w1 := rWithin_c z 0 1
        have w2 := rWithin_c m 0 50000
        have w3 := rWithin_c sc 1 3600
        by_cases q1 : winB z 0 1 = true
        · rw [q1] at w1
          by_cases q2 : winB m 0 50000 = true
          · rw [q2] at w2
            by_cases q3 : winB sc 1 3600 = true
            · rw [q3] at w3
              have kok := keep ((show segB ⟨z, m, sc⟩ = true → _ from kk) (by unfold segB; simp [q1, q2, q3]))
              clear q1 q2 q3 kk kj
              repeat' (first | (with_reducible first | refine awp_seq ?_ | refine awp_blockS ?_ | refine awp_blockC ?_ | refine awp_blockR ?_ | refine awp_skip ?_ | refine awp_ret ?_ | refine awp_exit ?_ | refine awp_region ?_ | refine awp_regionD (id := 12) 7 mixed (by decide +kernel) ?_ | refine awp_regionS (id := 13) [0, 1, 2, 3, 4, 5, 6] [7, 8] [[], [], [], [], [], [.new 0], []] [[.new 0], []] mixed (by decide +kernel) ?_ | refine awp_regionS (id := 14) [0, 1, 2, 3, 4, 5, 6] [7, 8] [[], [], [], [], [], [.new 0], []] [[.new 0], []] mixed (by decide +kernel) ?_ | refine awp_regionS (id := 24) [0, 1, 2, 3, 4, 5, 6, 7, 8, 9] [10, 11] [[], [], [], [], [], [], [], [], [.new 0], []] [[.new 0], []] mixed (by decide +kernel) ?_ | refine awp_regionS (id := 25) [0, 1, 2, 3, 4, 5, 6, 7] [8, 9] [[], [], [], [], [], [], [.new 0], []] [[.new 0], []] mixed (by decide +kernel) ?_ | refine awp_regionS (id := 28) [0, 1, 2, 3, 4, 5, 6, 7] [8, 9] [[], [], [], [], [], [], [.new 0], []] [[.new 0], []] mixed (by decide +kernel) ?_ | refine awp_condM ?_ | refine And.intro ?_ ?_ | apply gQ_merge | apply gE_merge | exact EqV_w | exact EqE_w | exact EqV_ptr | exact EqE_ptr | exact EqV_msl | exact EqE_msl | exact EqV_agg | exact EqE_agg | exact EqV_fn | exact EqE_fn | exact EqV_gd | exact EqE_gd | refine gM_splitN ?_ ?_ | refine gM_split ?_ ?_ |  refine condM_splitDN ?_ ?_ | refine condM_splitD ?_ ?_ | refine condM_splitN ?_ ?_ | refine condM_split ?_ ?_ | refine condM_any ?_ ?_ | refine cw (w1) ?_ | refine cw (w2) ?_ | refine cw (w3) ?_ | intro _) | (simp [*, hlt, cSeg]) | (refine cw_eq (w1) ?_ ?_; (· (simp [*]; done))) | (refine cw_eq (w2) ?_ ?_; (· (simp [*]; done))) | (refine cw_eq (w3) ?_ ?_; (· (simp [*]; done))))
              all_goals try first | exact inI64 (by omega) (by omega) | omega
              all_goals (refine loopK_normal _ _ _ _ _ (k + 1) _ ?_ (by first | omega | (dsimp only; omega) | (simp; omega)) ?_; (· exact ⟨by omega, kok⟩); (refine le_gen [] ?_ ?_ <;> first | trivial | (simp [*, (show l.take (k + 1) = _ from kt), Nat.add_mul]; done)))
            · rw [Bool.not_eq_true] at q3
              rw [q3] at w3
              clear q1 q2 q3 kk kj
              repeat' (first | (with_reducible first | refine awp_seq ?_ | refine awp_blockS ?_ | refine awp_blockC ?_ | refine awp_blockR ?_ | refine awp_skip ?_ | refine awp_ret ?_ | refine awp_exit ?_ | refine awp_region ?_ | refine awp_regionD (id := 12) 7 mixed (by decide +kernel) ?_ | refine awp_regionS (id := 13) [0, 1, 2, 3, 4, 5, 6] [7, 8] [[], [], [], [], [], [.new 0], []] [[.new 0], []] mixed (by decide +kernel) ?_ | refine awp_regionS (id := 14) [0, 1, 2, 3, 4, 5, 6] [7, 8] [[], [], [], [], [], [.new 0], []] [[.new 0], []] mixed (by decide +kernel) ?_ | refine awp_regionS (id := 24) [0, 1, 2, 3, 4, 5, 6, 7, 8, 9] [10, 11] [[], [], [], [], [], [], [], [], [.new 0], []] [[.new 0], []] mixed (by decide +kernel) ?_ | refine awp_regionS (id := 25) [0, 1, 2, 3, 4, 5, 6, 7] [8, 9] [[], [], [], [], [], [], [.new 0], []] [[.new 0], []] mixed (by decide +kernel) ?_ | refine awp_regionS (id := 28) [0, 1, 2, 3, 4, 5, 6, 7] [8, 9] [[], [], [], [], [], [], [.new 0], []] [[.new 0], []] mixed (by decide +kernel) ?_ | refine awp_condM ?_ | refine And.intro ?_ ?_ | apply gQ_merge | apply gE_merge | exact EqV_w | exact EqE_w | exact EqV_ptr | exact EqE_ptr | exact EqV_msl | exact EqE_msl | exact EqV_agg | exact EqE_agg | exact EqV_fn | exact EqE_fn | exact EqV_gd | exact EqE_gd | refine gM_splitN ?_ ?_ | refine gM_split ?_ ?_ |  refine condM_splitDN ?_ ?_ | refine condM_splitD ?_ ?_ | refine condM_splitN ?_ ?_ | refine condM_split ?_ ?_ | refine condM_any ?_ ?_ | refine cw (w1) ?_ | refine cw (w2) ?_ | refine cw (w3) ?_ | intro _) | (simp [*, hlt, cSeg]) | (refine cw_eq (w1) ?_ ?_; (· (simp [*]; done))) | (refine cw_eq (w2) ?_ ?_; (· (simp [*]; done))) | (refine cw_eq (w3) ?_ ?_; (· (simp [*]; done))))
              all_goals try first | exact inI64 (by omega) (by omega) | omega
          · rw [Bool.not_eq_true] at q2
            rw [q2] at w2
            clear q1 q2 kk kj w3
            repeat' (first | (with_reducible first | refine awp_seq ?_ | refine awp_blockS ?_ | refine awp_blockC ?_ | refine awp_blockR ?_ | refine awp_skip ?_ | refine awp_ret ?_ | refine awp_exit ?_ | refine awp_region ?_ | refine awp_regionD (id := 12) 7 mixed (by decide +kernel) ?_ | refine awp_regionS (id := 13) [0, 1, 2, 3, 4, 5, 6] [7, 8] [[], [], [], [], [], [.new 0], []] [[.new 0], []] mixed (by decide +kernel) ?_ | refine awp_regionS (id := 14) [0, 1, 2, 3, 4, 5, 6] [7, 8] [[], [], [], [], [], [.new 0], []] [[.new 0], []] mixed (by decide +kernel) ?_ | refine awp_regionS (id := 24) [0, 1, 2, 3, 4, 5, 6, 7, 8, 9] [10, 11] [[], [], [], [], [], [], [], [], [.new 0], []] [[.new 0], []] mixed (by decide +kernel) ?_ | refine awp_regionS (id := 25) [0, 1, 2, 3, 4, 5, 6, 7] [8, 9] [[], [], [], [], [], [], [.new 0], []] [[.new 0], []] mixed (by decide +kernel) ?_ | refine awp_regionS (id := 28) [0, 1, 2, 3, 4, 5, 6, 7] [8, 9] [[], [], [], [], [], [], [.new 0], []] [[.new 0], []] mixed (by decide +kernel) ?_ | refine awp_condM ?_ | refine And.intro ?_ ?_ | apply gQ_merge | apply gE_merge | exact EqV_w | exact EqE_w | exact EqV_ptr | exact EqE_ptr | exact EqV_msl | exact EqE_msl | exact EqV_agg | exact EqE_agg | exact EqV_fn | exact EqE_fn | exact EqV_gd | exact EqE_gd | refine gM_splitN ?_ ?_ | refine gM_split ?_ ?_ |  refine condM_splitDN ?_ ?_ | refine condM_splitD ?_ ?_ | refine condM_splitN ?_ ?_ | refine condM_split ?_ ?_ | refine condM_any ?_ ?_ | refine cw (w1) ?_ | refine cw (w2) ?_ | intro _) | (simp [*, hlt, cSeg]) | (refine cw_eq (w1) ?_ ?_; (· (simp [*]; done))) | (refine cw_eq (w2) ?_ ?_; (· (simp [*]; done))))
            all_goals try first | exact inI64 (by omega) (by omega) | omega
        · rw [Bool.not_eq_true] at q1
          rw [q1] at w1
          clear q1 kk kj w2 w3
          repeat' (first | (with_reducible first | refine awp_seq ?_ | refine awp_blockS ?_ | refine awp_blockC ?_ | refine awp_blockR ?_ | refine awp_skip ?_ | refine awp_ret ?_ | refine awp_exit ?_ | refine awp_region ?_ | refine awp_regionD (id := 12) 7 mixed (by decide +kernel) ?_ | refine awp_regionS (id := 13) [0, 1, 2, 3, 4, 5, 6] [7, 8] [[], [], [], [], [], [.new 0], []] [[.new 0], []] mixed (by decide +kernel) ?_ | refine awp_regionS (id := 14) [0, 1, 2, 3, 4, 5, 6] [7, 8] [[], [], [], [], [], [.new 0], []] [[.new 0], []] mixed (by decide +kernel) ?_ | refine awp_regionS (id := 24) [0, 1, 2, 3, 4, 5, 6, 7, 8, 9] [10, 11] [[], [], [], [], [], [], [], [], [.new 0], []] [[.new 0], []] mixed (by decide +kernel) ?_ | refine awp_regionS (id := 25) [0, 1, 2, 3, 4, 5, 6, 7] [8, 9] [[], [], [], [], [], [], [.new 0], []] [[.new 0], []] mixed (by decide +kernel) ?_ | refine awp_regionS (id := 28) [0, 1, 2, 3, 4, 5, 6, 7] [8, 9] [[], [], [], [], [], [], [.new 0], []] [[.new 0], []] mixed (by decide +kernel) ?_ | refine awp_condM ?_ | refine And.intro ?_ ?_ | apply gQ_merge | apply gE_merge | exact EqV_w | exact EqE_w | exact EqV_ptr | exact EqE_ptr | exact EqV_msl | exact EqE_msl | exact EqV_agg | exact EqE_agg | exact EqV_fn | exact EqE_fn | exact EqV_gd | exact EqE_gd | refine gM_splitN ?_ ?_ | refine gM_split ?_ ?_ |  refine condM_splitDN ?_ ?_ | refine condM_splitD ?_ ?_ | refine condM_splitN ?_ ?_ | refine condM_split ?_ ?_ | refine condM_any ?_ ?_ | refine cw (w1) ?_ | intro _) | (simp [*, hlt, cSeg]) | (refine cw_eq (w1) ?_ ?_; (· (simp [*]; done))))
          all_goals try first | exact inI64 (by omega) (by omega) | omega
      · have hke : k = l.length := by omega
        subst hke
        have kj := keep hj
        clear hj
        repeat' (first | (with_reducible first | refine awp_seq ?_ | refine awp_blockS ?_ | refine awp_blockC ?_ | refine awp_blockR ?_ | refine awp_skip ?_ | refine awp_ret ?_ | refine awp_exit ?_ | refine awp_region ?_ | refine awp_regionD (id := 12) 7 mixed (by decide +kernel) ?_ | refine awp_regionS (id := 13) [0, 1, 2, 3, 4, 5, 6] [7, 8] [[], [], [], [], [], [.new 0], []] [[.new 0], []] mixed (by decide +kernel) ?_ | refine awp_regionS (id := 14) [0, 1, 2, 3, 4, 5, 6] [7, 8] [[], [], [], [], [], [.new 0], []] [[.new 0], []] mixed (by decide +kernel) ?_ | refine awp_regionS (id := 24) [0, 1, 2, 3, 4, 5, 6, 7, 8, 9] [10, 11] [[], [], [], [], [], [], [], [], [.new 0], []] [[.new 0], []] mixed (by decide +kernel) ?_ | refine awp_regionS (id := 25) [0, 1, 2, 3, 4, 5, 6, 7] [8, 9] [[], [], [], [], [], [], [.new 0], []] [[.new 0], []] mixed (by decide +kernel) ?_ | refine awp_regionS (id := 28) [0, 1, 2, 3, 4, 5, 6, 7] [8, 9] [[], [], [], [], [], [], [.new 0], []] [[.new 0], []] mixed (by decide +kernel) ?_ | refine awp_condM ?_ | refine And.intro ?_ ?_ | apply gQ_merge | apply gE_merge | exact EqV_w | exact EqE_w | exact EqV_ptr | exact EqE_ptr | exact EqV_msl | exact EqE_msl | exact EqV_agg | exact EqE_agg | exact EqV_fn | exact EqE_fn | exact EqV_gd | exact EqE_gd | refine gM_splitN ?_ ?_ | refine gM_split ?_ ?_ |  refine condM_splitDN ?_ ?_ | refine condM_splitD ?_ ?_ | refine condM_splitN ?_ ?_ | refine condM_split ?_ ?_ | refine condM_any ?_ ?_ | intro _) | (simp [*]))
        all_goals (refine finW_intro () ?_ ?_; (· exact kj); (refine le_gen [1, 3] ?_ ?_ <;> first | trivial | (simp [*, List.take_length]; done)))
    · have hmore := (show (1 ≤ more ∧ more ≤ 100000) ∧ 0 ≤ slack ∧ slack ≤ 100000 from ke)
      have ok : SegsOk l := ⟨⟨by omega, by omega⟩, hf⟩
      have d1 := driven_bd (p := ptsS) ok.n.2 (fun k hk => pts_bd (ok.seg k hk))
      have d2 := driven_bd (p := bothS) ok.n.2 (fun k hk => both_bd (ok.seg k hk))
      have d3 := driven_le ok
      have cc := city_c
      have cF := fareOf_c l ok
      have cR := fareRange_c l ok
      unfold cFare at cF
      clear hf ok ke
      generalize driven ptsS l = A at *
      generalize driven bothS l = B at *
      obtain ⟨F, hF⟩ : ∃ F, F = 350 + A := ⟨_, rfl⟩
      obtain ⟨H, hH⟩ : ∃ H, H = 350 + B := ⟨_, rfl⟩
      rw [← hF] at cF cR
      rw [← hH] at cR
      have b1 : 350 ≤ F ∧ F ≤ H ∧ H ≤ 18350 := by omega
      clear hF hH d1 d2 d3
      have w3 := rWithin_c F 0 1000000000
      have w4 := rWithin_c H F 10000000
      rw [winB_iff.2 (by omega)] at w3 w4
      have dec1 : decS ⟨0, bRight, F, F, H, slack⟩ = (0, 0, 0) := by
        have hm : moneyE [F, F, H, slack] = 0 := money_ok (fun y hy => by
          simp only [List.mem_cons, List.not_mem_nil, or_false] at hy
          rcases hy with rfl | rfl | rfl | rfl <;> omega)
        have h0 : decH ⟨0, bRight, F, F, H, slack⟩ = 0 := by
          unfold decH noteE
          dsimp only
          rw [hm, nameB_right, decide_eq_true b1.2.1]
          rfl
        unfold decS
        rw [if_pos h0]
        dsimp only
        rw [if_pos (by omega)]
      have h0 : decH ⟨5, bMuch, H + more, F, H, slack⟩ = 0 := by
        have hm : moneyE [H + more, F, H, slack] = 0 := money_ok (fun y hy => by
          simp only [List.mem_cons, List.not_mem_nil, or_false] at hy
          rcases hy with rfl | rfl | rfl | rfl <;> omega)
        unfold decH noteE
        dsimp only
        rw [hm, nameB_much, decide_eq_true b1.2.1]
        rfl
      have cD1 := decide_c ⟨0, bRight, F, F, H, slack⟩ (by decide : bRight.size < 1000000)
      rw [dec1] at cD1
      have cD2 := decide_c ⟨5, bMuch, H + more, F, H, slack⟩ (by decide : bMuch.size < 1000000)
      clear dec1
      have hbig : H + more ≤ 200000 := by omega
      have hbig0 : 0 ≤ H + more := by omega
      by_cases hs : more ≤ slack
      · have dec2 : decS ⟨5, bMuch, H + more, F, H, slack⟩ = (0, 1, 0) := by
          unfold decS
          rw [if_pos h0]
          dsimp only
          rw [if_neg (by omega), if_pos (by omega)]
        rw [dec2] at cD2
        clear dec2 h0
        unfold cCompl cCity cTripT at *
        dsimp only at cD1 cD2
        repeat' (first | (with_reducible first | refine awp_seq ?_ | refine awp_blockS ?_ | refine awp_blockC ?_ | refine awp_blockR ?_ | refine awp_skip ?_ | refine awp_ret ?_ | refine awp_exit ?_ | refine awp_region ?_ | refine awp_regionD (id := 12) 7 mixed (by decide +kernel) ?_ | refine awp_regionS (id := 13) [0, 1, 2, 3, 4, 5, 6] [7, 8] [[], [], [], [], [], [.new 0], []] [[.new 0], []] mixed (by decide +kernel) ?_ | refine awp_regionS (id := 14) [0, 1, 2, 3, 4, 5, 6] [7, 8] [[], [], [], [], [], [.new 0], []] [[.new 0], []] mixed (by decide +kernel) ?_ | refine awp_regionS (id := 24) [0, 1, 2, 3, 4, 5, 6, 7, 8, 9] [10, 11] [[], [], [], [], [], [], [], [], [.new 0], []] [[.new 0], []] mixed (by decide +kernel) ?_ | refine awp_regionS (id := 25) [0, 1, 2, 3, 4, 5, 6, 7] [8, 9] [[], [], [], [], [], [], [.new 0], []] [[.new 0], []] mixed (by decide +kernel) ?_ | refine awp_regionS (id := 28) [0, 1, 2, 3, 4, 5, 6, 7] [8, 9] [[], [], [], [], [], [], [.new 0], []] [[.new 0], []] mixed (by decide +kernel) ?_ | refine awp_condM ?_ | refine And.intro ?_ ?_ | apply gQ_merge | apply gE_merge | exact EqV_w | exact EqE_w | exact EqV_ptr | exact EqE_ptr | exact EqV_msl | exact EqE_msl | exact EqV_agg | exact EqE_agg | exact EqV_fn | exact EqE_fn | exact EqV_gd | exact EqE_gd | refine gM_splitN ?_ ?_ | refine gM_split ?_ ?_ |  refine condM_splitDN ?_ ?_ | refine condM_splitD ?_ ?_ | refine condM_splitN ?_ ?_ | refine condM_split ?_ ?_ | refine condM_any ?_ ?_ | refine cw (cc) ?_ | refine cw (cF) ?_ | refine cw (cR) ?_ | refine cw (w3) ?_ | refine cw (w4) ?_ | refine cw (cD1) ?_ | refine cw (cD2) ?_ | intro _) | (simp [*, hs]) | (refine cw_eq (cc) ?_ ?_; (· (simp [*]; done))) | (refine cw_eq (cF) ?_ ?_; (· (simp [*]; done))) | (refine cw_eq (cR) ?_ ?_; (· (simp [*]; done))) | (refine cw_eq (w3) ?_ ?_; (· (simp [*]; done))) | (refine cw_eq (w4) ?_ ?_; (· (simp [*]; done))) | (refine cw_eq (cD1) ?_ ?_; (· (simp [*]; done))) | (refine cw_eq (cD2) ?_ ?_; (· (simp [*]; done))))
        all_goals try first | exact inI64 (by omega) (by omega) | omega
      · have dec2 : decS ⟨5, bMuch, H + more, F, H, slack⟩ = (more, 2, 0) := by
          unfold decS
          rw [if_pos h0]
          dsimp only
          rw [if_neg (by omega), if_neg (by omega), show H + more - H = more by omega]
        have z1 := fX_zero (x := H + more) (by omega) (by omega)
        obtain ⟨a1, a2, _⟩ := fX_entry z1
        have i1 := fX_in (t := tripX (H + more)) (by decide : bMuch.size < 1000000) z1
        obtain ⟨r1, r2⟩ := backX_in (x := more) (by omega) (by omega)
        obtain ⟨p1, b1x⟩ := bookX_more book0_x (by decide) a1 i1
        obtain ⟨p2, b2x⟩ := bookX_more b1x (by decide) r1 r2
        have left := cash_left H more (by omega) (by omega) (by omega)
        have cN := names_c
        have cU := rule_c
        have cE := fareAny_c (tripX (H + more)) (by decide : bMuch.size < 1000000)
        rw [z1] at cE
        have hrE : rE ⟨5, bMuch, H + more, F, H, slack⟩ = 0 := by
          unfold rE
          rw [dec2]
          dsimp only
          rw [decide_eq_true (by omega : (0 : Int) < more)]
          rfl
        have cB : RealCall Tryz.prog 13 [.sl 5 (cAccs exAccs), .agg (cRule exRule), .agg (cCompl ⟨5, bMuch, H + more, F, H, slack⟩)] (.tup [.agg (cEntry (backX more)), .int .i64 0]) true := refund_ok exAccs accsIn_ex exRule ⟨5, bMuch, H + more, F, H, slack⟩ (by decide : bMuch.size < 1000000) rule_zero hrE more dec2 (by omega) (by omega)
        rw [dec2] at cD2
        have cP1 : RealCall Tryz.prog 14 [.agg [.sl 5 (cAccs exAccs), .sl 0 [], .int .i64 0], .agg (cEntry (fX (tripX (H + more))).1)] (.tup [.agg (cBook (postS book0 (fX (tripX (H + more))).1)), .int .i64 0]) true := post_ok book0 book0_x.bin _ i1 book0_x.right p1
        have cP2 := post_ok _ b1x.bin _ r2 b1x.right p2
        have cL := balanceOf_c _ b2x.bin exRule.cash 5
        rw [left] at cL
        have ecash : exRule.cash = ⟨#[99, 97, 115, 104]⟩ := by decide
        rw [ecash] at cL
        clear dec2 h0 z1 a1 a2 i1 r1 r2 p1 b1x p2 b2x left hrE ecash
        have htx : cTrip (tripX (H + more)) = [.int .i64 5, .str bMuch, .int .i64 (H + more), .int .i64 0, .int .i64 0] := rfl
        rw [htx] at cE
        generalize postS (postS book0 (fX (tripX (H + more))).1) (backX more) = B2 at *
        generalize postS book0 (fX (tripX (H + more))).1 = B1 at *
        generalize (fX (tripX (H + more))).1 = E1 at *
        generalize backX more = E2 at *
        clear htx
        unfold cCompl cCity cTripT cEntry cBook at *
        dsimp only at cD1 cD2 cB
        generalize cAccs exAccs = AC at *
        generalize cRule exRule = RU at *
        repeat' (first | (with_reducible first | refine awp_seq ?_ | refine awp_blockS ?_ | refine awp_blockC ?_ | refine awp_blockR ?_ | refine awp_skip ?_ | refine awp_ret ?_ | refine awp_exit ?_ | refine awp_region ?_ | refine awp_regionD (id := 12) 7 mixed (by decide +kernel) ?_ | refine awp_regionS (id := 13) [0, 1, 2, 3, 4, 5, 6] [7, 8] [[], [], [], [], [], [.new 0], []] [[.new 0], []] mixed (by decide +kernel) ?_ | refine awp_regionS (id := 14) [0, 1, 2, 3, 4, 5, 6] [7, 8] [[], [], [], [], [], [.new 0], []] [[.new 0], []] mixed (by decide +kernel) ?_ | refine awp_regionS (id := 24) [0, 1, 2, 3, 4, 5, 6, 7, 8, 9] [10, 11] [[], [], [], [], [], [], [], [], [.new 0], []] [[.new 0], []] mixed (by decide +kernel) ?_ | refine awp_regionS (id := 25) [0, 1, 2, 3, 4, 5, 6, 7] [8, 9] [[], [], [], [], [], [], [.new 0], []] [[.new 0], []] mixed (by decide +kernel) ?_ | refine awp_regionS (id := 28) [0, 1, 2, 3, 4, 5, 6, 7] [8, 9] [[], [], [], [], [], [], [.new 0], []] [[.new 0], []] mixed (by decide +kernel) ?_ | refine awp_condM ?_ | refine And.intro ?_ ?_ | apply gQ_merge | apply gE_merge | exact EqV_w | exact EqE_w | exact EqV_ptr | exact EqE_ptr | exact EqV_msl | exact EqE_msl | exact EqV_agg | exact EqE_agg | exact EqV_fn | exact EqE_fn | exact EqV_gd | exact EqE_gd | refine gM_splitN ?_ ?_ | refine gM_split ?_ ?_ |  refine condM_splitDN ?_ ?_ | refine condM_splitD ?_ ?_ | refine condM_splitN ?_ ?_ | refine condM_split ?_ ?_ | refine condM_any ?_ ?_ | refine cw (cc) ?_ | refine cw (cF) ?_ | refine cw (cR) ?_ | refine cw (w3) ?_ | refine cw (w4) ?_ | refine cw (cD1) ?_ | refine cw (cD2) ?_ | refine cw (cN) ?_ | refine cw (cU) ?_ | refine cw (cE) ?_ | refine cw (cB) ?_ | refine cw (cP1) ?_ | refine cw (cP2) ?_ | refine cw (cL) ?_ | intro _) | (simp [*, hs]) | (refine cw_eq (cc) ?_ ?_; (· (simp [*]; done))) | (refine cw_eq (cF) ?_ ?_; (· (simp [*]; done))) | (refine cw_eq (cR) ?_ ?_; (· (simp [*]; done))) | (refine cw_eq (w3) ?_ ?_; (· (simp [*]; done))) | (refine cw_eq (w4) ?_ ?_; (· (simp [*]; done))) | (refine cw_eq (cD1) ?_ ?_; (· (simp [*]; done))) | (refine cw_eq (cD2) ?_ ?_; (· (simp [*]; done))) | (refine cw_eq (cN) ?_ ?_; (· (simp [*]; done))) | (refine cw_eq (cU) ?_ ?_; (· (simp [*]; done))) | (refine cw_eq (cE) ?_ ?_; (· (simp [*]; done))) | (refine cw_eq (cB) ?_ ?_; (· (simp [*]; done))) | (refine cw_eq (cP1) ?_ ?_; (· (simp [*]; done))) | (refine cw_eq (cP2) ?_ ?_; (· (simp [*]; done))) | (refine cw_eq (cL) ?_ ?_; (· (simp [*]; done))))
        all_goals try first | exact inI64 (by omega) (by omega) | omega
end Go.Proofs.YtlcimflkjfbaoaaGreat

