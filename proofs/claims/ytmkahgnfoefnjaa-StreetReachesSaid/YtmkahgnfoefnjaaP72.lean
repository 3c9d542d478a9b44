/- Contracts of functions for this claim: lemmas alone. -/
import Derived.Test.YtmkahgnfoefnjaaP71
import Derived.Test.YtmkahgnfoefnjaaP38
import Derived.Test.YtmkahgnfoefnjaaP52
set_option linter.unusedSimpArgs false
set_option linter.unusedVariables false
namespace Go.Proofs.Ytmkahgnfoefnjaa
open Go Go.Fi

def hasI (x : Int) (l : List Int) : Bool := anyD (fun y => decide (y = x)) l 0
theorem has_c (l : List Int) (h : l.length < 100000) (x : Int) : RealCall Try.prog 16 [.sl l.length (ints l), .int .i64 x] (.bool (hasI x l)) true := by
  generalize hR : hasI x l = R
  unfold hasI at hR
  have kR := keep hR
  clear hR
  refine realcall_intro Try.func16 (by kernel_rfl) rfl (Nat.le_of_ble_eq_true (by kernel_rfl)) ?_
  simp only [Try.results16, Try.ntmps16]
  repeat' (first | (with_reducible first | refine awp_seq ?_ | refine awp_blockS ?_ | refine awp_blockC ?_ | refine awp_blockR ?_ | refine awp_skip ?_ | refine awp_ret ?_ | refine awp_exit ?_ | refine awp_region ?_ | refine awp_condM ?_ | refine And.intro ?_ ?_ | refine gE_splitN ?_ ?_ | refine gE_split ?_ ?_ | refine gQ_splitN ?_ ?_ | refine gQ_split ?_ ?_ | refine gM_splitN ?_ ?_ | refine gM_split ?_ ?_ | refine condM_splitDN ?_ ?_ | refine condM_splitD ?_ ?_ | refine condM_splitN ?_ ?_ | refine condM_split ?_ ?_ | refine condM_any ?_ ?_ | intro _) | (simp [*]))
  refine awp_for3 (fun (k : Nat) => k ≤ l.length ∧ anyD (fun y => decide (y = x)) l k = anyD (fun y => decide (y = x)) l 0) [0, 1] (fun (k : Nat) => [(5, .w false false (.int .i64 k))]) [] (fun (k : Nat) => []) (fun (k : Nat) => l.length - k) (fun (_u : Unit) => anyD (fun y => decide (y = x)) l 0 = false) [] (fun (_u : Unit) => []) [] (fun (_u : Unit) => []) (0) ⟨Nat.zero_le _, rfl⟩ (by simp) (by simp) (fun k hk => ?_) (fun _u hf => ?_)
  · obtain ⟨hk, hj⟩ := hk
    by_cases hlt : k < l.length
    · rw [anyD_step _ _ _ hlt] at hj
      by_cases hx : nth l k = x
      · rw [decide_eq_true hx, Bool.true_or] at hj
        have kR2 : R = true := by
          rw [keep_def] at kR
          rw [← kR, ← hj]
        clear hj kR
        subst kR2
        repeat' (first | (with_reducible first | refine awp_seq ?_ | refine awp_blockS ?_ | refine awp_blockC ?_ | refine awp_blockR ?_ | refine awp_skip ?_ | refine awp_ret ?_ | refine awp_exit ?_ | refine awp_region ?_ | refine awp_condM ?_ | refine And.intro ?_ ?_ | refine gE_splitN ?_ ?_ | refine gE_split ?_ ?_ | refine gQ_splitN ?_ ?_ | refine gQ_split ?_ ?_ | refine gM_splitN ?_ ?_ | refine gM_split ?_ ?_ | refine condM_splitDN ?_ ?_ | refine condM_splitD ?_ ?_ | refine condM_splitN ?_ ?_ | refine condM_split ?_ ?_ | refine condM_any ?_ ?_ | intro _) | (simp [*, hlt, hx]))
        all_goals try omega
      · rw [decide_eq_false hx, Bool.false_or] at hj
        have kj := keep hj
        clear hj
        repeat' (first | (with_reducible first | refine awp_seq ?_ | refine awp_blockS ?_ | refine awp_blockC ?_ | refine awp_blockR ?_ | refine awp_skip ?_ | refine awp_ret ?_ | refine awp_exit ?_ | refine awp_region ?_ | refine awp_condM ?_ | refine And.intro ?_ ?_ | refine gE_splitN ?_ ?_ | refine gE_split ?_ ?_ | refine gQ_splitN ?_ ?_ | refine gQ_split ?_ ?_ | refine gM_splitN ?_ ?_ | refine gM_split ?_ ?_ | refine condM_splitDN ?_ ?_ | refine condM_splitD ?_ ?_ | refine condM_splitN ?_ ?_ | refine condM_split ?_ ?_ | refine condM_any ?_ ?_ | intro _) | (simp [*, hlt, hx]))
        all_goals first
          | exact inI64 (by omega) (by omega)
          | omega
          | (refine loopK_normal _ _ _ _ _ (k + 1) _ ?_ (by first | omega | (dsimp only; omega) | (simp; omega)) ?_; (· exact ⟨by omega, kj⟩); (refine le_of ?_ ?_ <;> first | trivial | (simp [*]; done)))
          | skip
    · have hke : k = l.length := by omega
      subst hke
      rw [anyD_end] at hj
      have kj := keep hj.symm
      clear hj
      repeat' (first | (with_reducible first | refine awp_seq ?_ | refine awp_blockS ?_ | refine awp_blockC ?_ | refine awp_blockR ?_ | refine awp_skip ?_ | refine awp_ret ?_ | refine awp_exit ?_ | refine awp_region ?_ | refine awp_condM ?_ | refine And.intro ?_ ?_ | refine gE_splitN ?_ ?_ | refine gE_split ?_ ?_ | refine gQ_splitN ?_ ?_ | refine gQ_split ?_ ?_ | refine gM_splitN ?_ ?_ | refine gM_split ?_ ?_ | refine condM_splitDN ?_ ?_ | refine condM_splitD ?_ ?_ | refine condM_splitN ?_ ?_ | refine condM_split ?_ ?_ | refine condM_any ?_ ?_ | intro _) | (simp [*]))
      all_goals (refine finW_intro () ?_ ?_; (· exact kj); (refine le_of ?_ ?_ <;> first | trivial | (simp [*]; done)))
  · have kR2 : R = false := by
      rw [keep_def] at kR
      rw [← kR, hf]
    clear kR hf
    subst kR2
    repeat' (first | (with_reducible first | refine awp_seq ?_ | refine awp_blockS ?_ | refine awp_blockC ?_ | refine awp_blockR ?_ | refine awp_skip ?_ | refine awp_ret ?_ | refine awp_exit ?_ | refine awp_region ?_ | refine awp_condM ?_ | refine And.intro ?_ ?_ | refine gE_splitN ?_ ?_ | refine gE_split ?_ ?_ | refine gQ_splitN ?_ ?_ | refine gQ_split ?_ ?_ | refine gM_splitN ?_ ?_ | refine gM_split ?_ ?_ | refine condM_splitDN ?_ ?_ | refine condM_splitD ?_ ?_ | refine condM_splitN ?_ ?_ | refine condM_split ?_ ?_ | refine condM_any ?_ ?_ | intro _) | (simp [*]))
/-- the roads without which a place is not reached -/
noncomputable def needL (n : Net) (a b : Nat) : Nat → List Int
  | 0 => []
  | k + 1 => if nth (reachL n k a) b = true then needL n a b k else needL n a b k ++ [(k : Int)]
theorem needL_len (n : Net) (a b : Nat) : ∀ k, (needL n a b k).length ≤ k
  | 0 => Nat.le_refl _
  | k + 1 => by
    have := needL_len n a b k
    simp only [needL]
    split
    · omega
    · rw [List.length_append, List.length_singleton]; omega
@[simp] theorem needL_zero (n : Net) (a b : Nat) : needL n a b 0 = [] := by rw [needL]
theorem needed_bad (n : Net) (h : NetIn n) (x y : Int) (he : pE n x y ≠ 0) : RealCall Try.prog 9 [aNet n, .agg [.int .i64 x, .int .i64 y]] (.tup [.sl 0 [], .int .i64 (pE n x y)]) true := by
  have co := open_c n h
  have pa := placeErr_c n x h.np
  have pb := placeErr_c n y h.np
  have cf := first3_c (netS n).2.2 (errUnless (winB x 0 (n.places.length - 1)) 6) (errUnless (winB y 0 (n.places.length - 1)) 6)
  unfold pE at *
  generalize (netS n).2.2 = ne at *
  generalize errUnless (winB x 0 (n.places.length - 1)) 6 = ex at *
  generalize errUnless (winB y 0 (n.places.length - 1)) 6 = ey at *
  generalize firstS [ne, ex, ey] = e at *
  clear h
  unfold aNet cNet at *
  refine realcall_intro Try.func9 (by kernel_rfl) rfl (Nat.le_of_ble_eq_true (by kernel_rfl)) ?_
  simp only [Try.results9, Try.ntmps9]
  repeat' (first | (with_reducible first | refine awp_seq ?_ | refine awp_blockS ?_ | refine awp_blockC ?_ | refine awp_blockR ?_ | refine awp_skip ?_ | refine awp_ret ?_ | refine awp_exit ?_ | refine awp_region ?_ | refine awp_regionD (id := 2) 11 mixed (by decide +kernel) ?_ | refine awp_regionD (id := 5) 9 mixed (by decide +kernel) ?_ | refine awp_regionD (id := 11) 10 mixed (by decide +kernel) ?_ | refine awp_condM ?_ | refine And.intro ?_ ?_ | refine gE_splitN ?_ ?_ | refine gE_split ?_ ?_ | refine gQ_splitN ?_ ?_ | refine gQ_split ?_ ?_ | refine gM_splitN ?_ ?_ | refine gM_split ?_ ?_ | refine condM_splitDN ?_ ?_ | refine condM_splitD ?_ ?_ | refine condM_splitN ?_ ?_ | refine condM_split ?_ ?_ | refine condM_any ?_ ?_ | refine cw (co) ?_ | refine cw (pa) ?_ | refine cw (pb) ?_ | refine cw (cf) ?_ | intro _) | (simp [*, he]))
set_option maxHeartbeats 4000000 in
set_option maxRecDepth 20000 in
theorem needed_none (n : Net) (h : NetIn n) (a b : Nat) (ok : PairOk n a b a b) (he : pE n a b = 0) (hn : nth (reachL n (-1) a) b = false) : RealCall Try.prog 9 [aNet n, .agg [.int .i64 a, .int .i64 b]] (.tup [.sl 0 [], .int .i64 12]) true := by
  have co := open_c n h
  have pa := placeErr_c n a h.np
  have pb := placeErr_c n b h.np
  have cf := first3_c (netS n).2.2 (errUnless (winB (a : Int) 0 (n.places.length - 1)) 6) (errUnless (winB (b : Int) 0 (n.places.length - 1)) 6)
  have c0 := reached_c n ok.ok a ok.la (-1)
  have lb := ok.lb
  have hl := reachL_len n (-1) a
  unfold pE at he
  rw [he] at cf
  generalize (netS n).2.2 = ne at *
  generalize errUnless (winB (a : Int) 0 (n.places.length - 1)) 6 = ex at *
  generalize errUnless (winB (b : Int) 0 (n.places.length - 1)) 6 = ey at *
  generalize reachL n (-1) a = L at *
  clear ok h he
  unfold aNet cNet at *
  refine realcall_intro Try.func9 (by kernel_rfl) rfl (Nat.le_of_ble_eq_true (by kernel_rfl)) ?_
  simp only [Try.results9, Try.ntmps9]
  repeat' (first | (with_reducible first | refine awp_seq ?_ | refine awp_blockS ?_ | refine awp_blockC ?_ | refine awp_blockR ?_ | refine awp_skip ?_ | refine awp_ret ?_ | refine awp_exit ?_ | refine awp_region ?_ | refine awp_regionD (id := 2) 11 mixed (by decide +kernel) ?_ | refine awp_regionD (id := 5) 9 mixed (by decide +kernel) ?_ | refine awp_regionD (id := 11) 10 mixed (by decide +kernel) ?_ | refine awp_condM ?_ | refine And.intro ?_ ?_ | refine gE_splitN ?_ ?_ | refine gE_split ?_ ?_ | refine gQ_splitN ?_ ?_ | refine gQ_split ?_ ?_ | refine gM_splitN ?_ ?_ | refine gM_split ?_ ?_ | refine condM_splitDN ?_ ?_ | refine condM_splitD ?_ ?_ | refine condM_splitN ?_ ?_ | refine condM_split ?_ ?_ | refine condM_any ?_ ?_ | refine cw (co) ?_ | refine cw (pa) ?_ | refine cw (pb) ?_ | refine cw (cf) ?_ | refine cw (c0) ?_ | intro _) | (simp [*, lb, hl, hn]))
  all_goals try omega
set_option maxHeartbeats 8000000 in
set_option maxRecDepth 20000 in
theorem needed_ok (n : Net) (h : NetIn n) (a b : Nat) (ok : PairOk n a b a b) (he : pE n a b = 0) (hn : nth (reachL n (-1) a) b = true) : RealCall Try.prog 9 [aNet n, .agg [.int .i64 a, .int .i64 b]] (.tup [.sl (needL n a b n.roads.length).length (ints (needL n a b n.roads.length)), .int .i64 0]) true := by
  have co := open_c n h
  have pa := placeErr_c n a h.np
  have pb := placeErr_c n b h.np
  have cf := first3_c (netS n).2.2 (errUnless (winB (a : Int) 0 (n.places.length - 1)) 6) (errUnless (winB (b : Int) 0 (n.places.length - 1)) 6)
  have c0 := reached_c n ok.ok a ok.la (-1)
  have kc := keep (fun k : Nat => reached_c n ok.ok a ok.la k)
  have lb := ok.lb
  have hl := reachL_len n (-1) a
  have hnr := h.nr
  unfold pE at he
  rw [he] at cf
  generalize (netS n).2.2 = ne at *
  generalize errUnless (winB (a : Int) 0 (n.places.length - 1)) 6 = ex at *
  generalize errUnless (winB (b : Int) 0 (n.places.length - 1)) 6 = ey at *
  generalize reachL n (-1) a = L at *
  clear ok h he
  unfold aNet cNet at *
  refine realcall_intro Try.func9 (by kernel_rfl) rfl (Nat.le_of_ble_eq_true (by kernel_rfl)) ?_
  simp only [Try.results9, Try.ntmps9]
  repeat' (first | (with_reducible first | refine awp_seq ?_ | refine awp_blockS ?_ | refine awp_blockC ?_ | refine awp_blockR ?_ | refine awp_skip ?_ | refine awp_ret ?_ | refine awp_exit ?_ | refine awp_region ?_ | refine awp_regionD (id := 2) 11 mixed (by decide +kernel) ?_ | refine awp_regionD (id := 5) 9 mixed (by decide +kernel) ?_ | refine awp_regionD (id := 11) 10 mixed (by decide +kernel) ?_ | refine awp_condM ?_ | refine And.intro ?_ ?_ | refine gE_splitN ?_ ?_ | refine gE_split ?_ ?_ | refine gQ_splitN ?_ ?_ | refine gQ_split ?_ ?_ | refine gM_splitN ?_ ?_ | refine gM_split ?_ ?_ | refine condM_splitDN ?_ ?_ | refine condM_splitD ?_ ?_ | refine condM_splitN ?_ ?_ | refine condM_split ?_ ?_ | refine condM_any ?_ ?_ | refine cw (co) ?_ | refine cw (pa) ?_ | refine cw (pb) ?_ | refine cw (cf) ?_ | refine cw (c0) ?_ | intro _) | (simp [*, lb, hl, hn]))
  all_goals try omega
  clear co pa pb cf c0 hl hn
  refine awp_for4 5 (fun (k : Nat) => k ≤ n.roads.length) [3, 6, 40] (fun (k : Nat) => [(8, .msl 4 (needL n a b k).length 1 0 (needL n a b k).length), (41, .w false false (.int .i64 k))]) [1, 2] (fun (k : Nat) => [(4, iA (needL n a b k))]) (fun (k : Nat) => n.roads.length - k) (fun (_u : Unit) => True) [] (fun (_u : Unit) => [(8, .msl 4 (needL n a b n.roads.length).length 1 0 (needL n a b n.roads.length).length)]) [] (fun (_u : Unit) => [(4, iA (needL n a b n.roads.length))]) (0) (Nat.zero_le _) (le_gen [] (by simp) (by simp)) (fun k hk => ?_) (fun _u hf => ?_)
  · by_cases hlt : k < n.roads.length
    · have ck := kc k
      have hl := reachL_len n k a
      have hnl := needL_len n a b k
      cases hv : nth (reachL n k a) b with
      | true =>
        have e : needL n a b (k + 1) = needL n a b k := by
          simp only [needL]; rw [if_pos hv]
        have ke := keep e
        clear e
        generalize reachL n k a = L2 at *
        repeat' (first | (with_reducible first | refine awp_seq ?_ | refine awp_blockS ?_ | refine awp_blockC ?_ | refine awp_blockR ?_ | refine awp_skip ?_ | refine awp_ret ?_ | refine awp_exit ?_ | refine awp_region ?_ | refine awp_regionD (id := 2) 11 mixed (by decide +kernel) ?_ | refine awp_regionD (id := 5) 9 mixed (by decide +kernel) ?_ | refine awp_regionD (id := 11) 10 mixed (by decide +kernel) ?_ | refine awp_condM ?_ | refine And.intro ?_ ?_ | refine gE_splitN ?_ ?_ | refine gE_split ?_ ?_ | refine gQ_splitN ?_ ?_ | refine gQ_split ?_ ?_ | refine gM_splitN ?_ ?_ | refine gM_split ?_ ?_ | refine condM_splitDN ?_ ?_ | refine condM_splitD ?_ ?_ | refine condM_splitN ?_ ?_ | refine condM_split ?_ ?_ | refine condM_any ?_ ?_ | refine cw (ck) ?_ | intro _) | (simp [*, hlt, lb, hl, hv]))
        all_goals first
          | exact inI64 (by omega) (by omega)
          | omega
          | (rw [keep_def] at ke; (refine loopK_normal _ _ _ _ _ (k + 1) _ ?_ (by first | omega | (dsimp only; omega) | (simp; omega)) ?_; (· omega); (refine le_of ?_ ?_ <;> first | trivial | (simp [*, ke]; done))))
          | skip
      | false =>
        have e : needL n a b (k + 1) = needL n a b k ++ [(k : Int)] := by
          simp only [needL]; rw [if_neg (by rw [hv]; decide)]
        have ke := keep e
        clear e
        generalize reachL n k a = L2 at *
        repeat' (first | (with_reducible first | refine awp_seq ?_ | refine awp_blockS ?_ | refine awp_blockC ?_ | refine awp_blockR ?_ | refine awp_skip ?_ | refine awp_ret ?_ | refine awp_exit ?_ | refine awp_region ?_ | refine awp_regionD (id := 2) 11 mixed (by decide +kernel) ?_ | refine awp_regionD (id := 5) 9 mixed (by decide +kernel) ?_ | refine awp_regionD (id := 11) 10 mixed (by decide +kernel) ?_ | refine awp_condM ?_ | refine And.intro ?_ ?_ | refine gE_splitN ?_ ?_ | refine gE_split ?_ ?_ | refine gQ_splitN ?_ ?_ | refine gQ_split ?_ ?_ | refine gM_splitN ?_ ?_ | refine gM_split ?_ ?_ | refine condM_splitDN ?_ ?_ | refine condM_splitD ?_ ?_ | refine condM_splitN ?_ ?_ | refine condM_split ?_ ?_ | refine condM_any ?_ ?_ | refine cw (ck) ?_ | intro _) | (simp [*, hlt, lb, hl, hv]))
        all_goals first
          | exact inI64 (by omega) (by omega)
          | omega
          | (rw [keep_def] at ke; (refine loopK_normal _ _ _ _ _ (k + 1) _ ?_ (by first | omega | (dsimp only; omega) | (simp; omega)) ?_; (· omega); (refine le_of ?_ ?_ <;> first | trivial | (simp [*, ke]; done))))
          | skip
    · have hke : k = n.roads.length := by omega
      subst hke
      repeat' (first | (with_reducible first | refine awp_seq ?_ | refine awp_blockS ?_ | refine awp_blockC ?_ | refine awp_blockR ?_ | refine awp_skip ?_ | refine awp_ret ?_ | refine awp_exit ?_ | refine awp_region ?_ | refine awp_regionD (id := 2) 11 mixed (by decide +kernel) ?_ | refine awp_regionD (id := 5) 9 mixed (by decide +kernel) ?_ | refine awp_regionD (id := 11) 10 mixed (by decide +kernel) ?_ | refine awp_condM ?_ | refine And.intro ?_ ?_ | refine gE_splitN ?_ ?_ | refine gE_split ?_ ?_ | refine gQ_splitN ?_ ?_ | refine gQ_split ?_ ?_ | refine gM_splitN ?_ ?_ | refine gM_split ?_ ?_ | refine condM_splitDN ?_ ?_ | refine condM_splitD ?_ ?_ | refine condM_splitN ?_ ?_ | refine condM_split ?_ ?_ | refine condM_any ?_ ?_ | intro _) | (simp [*]))
      all_goals (refine finW_intro () ?_ ?_; (· trivial); (refine le_of ?_ ?_ <;> first | trivial | (simp [*]; done)))
  · repeat' (first | (with_reducible first | refine awp_seq ?_ | refine awp_blockS ?_ | refine awp_blockC ?_ | refine awp_blockR ?_ | refine awp_skip ?_ | refine awp_ret ?_ | refine awp_exit ?_ | refine awp_region ?_ | refine awp_regionD (id := 2) 11 mixed (by decide +kernel) ?_ | refine awp_regionD (id := 5) 9 mixed (by decide +kernel) ?_ | refine awp_regionD (id := 11) 10 mixed (by decide +kernel) ?_ | refine awp_condM ?_ | refine And.intro ?_ ?_ | refine gE_splitN ?_ ?_ | refine gE_split ?_ ?_ | refine gQ_splitN ?_ ?_ | refine gQ_split ?_ ?_ | refine gM_splitN ?_ ?_ | refine gM_split ?_ ?_ | refine condM_splitDN ?_ ?_ | refine condM_splitD ?_ ?_ | refine condM_splitN ?_ ?_ | refine condM_split ?_ ?_ | refine condM_any ?_ ?_ | intro _) | (simp [*]))
/-! what the lists say -/
theorem need_has (n : Net) (a b : Nat) (r : Nat) : ∀ k, hasI (r : Int) (needL n a b k) = decide (r < k ∧ nth (reachL n r a) b = false)
  | 0 => by simp [hasI, anyD]
  | k + 1 => by
    have ih := need_has n a b r k
    unfold hasI anyD at *
    rw [List.drop_zero] at *
    simp only [needL]
    by_cases h : nth (reachL n k a) b = true
    · rw [if_pos h, ih]
      apply decide_eq_decide.2
      constructor
      · intro ⟨h1, h2⟩; exact ⟨by omega, h2⟩
      · intro ⟨h1, h2⟩
        refine ⟨?_, h2⟩
        by_cases e : r = k
        · subst e; rw [h] at h2; cases h2
        · omega
    · rw [if_neg h, List.any_append, ih]
      have hf : nth (reachL n k a) b = false := by cases hx : nth (reachL n k a) b with | true => exact absurd hx h | false => rfl
      by_cases e : r = k
      · subst e
        rw [decide_eq_false (by omega), Bool.false_or, decide_eq_true (And.intro (Nat.lt_succ_self r) hf)]
        simp
      · have : ([(k : Int)].any fun y => decide (y = (r : Int))) = false := by
          simp; omega
        rw [this, Bool.or_false]
        apply decide_eq_decide.2
        constructor
        · intro ⟨h1, h2⟩; exact ⟨by omega, h2⟩
        · intro ⟨h1, h2⟩; exact ⟨by omega, h2⟩
theorem wr_get (l : List Road) (r : Nat) (hr : r < l.length) (j : Nat) (hj : j < (wr l r l.length).length) : nth (wr l r l.length) j = nth l (if j < r then j else j + 1) := by
  rw [wr_all l r hr] at hj ⊢
  unfold nth
  rw [List.getD_eq_getElem?_getD, List.getD_eq_getElem?_getD, List.getElem?_append]
  have hT : (l.take r).length = r := by rw [List.length_take]; omega
  rw [hT]
  split
  · rename_i h; rw [List.getElem?_take, if_pos h]
  · rw [List.getElem?_drop]
    congr 2; omega
theorem wr_total (l : List Road) (r : Nat) (hr : r < l.length) : (wr l r l.length).length + 1 = l.length := (wr_len l r l.length).2.1 hr
theorem reach_of {n : Net} {f : Road → Int → Int} {a i : Nat} {st : Int} {m : Net} (h : ∃ v, Reach m f a st i v) (he : m = n) : ∃ v, Reach n f a st i v := by subst he; exact h
theorem reachB_out {n : Net} {r : Nat} (hr : r < n.roads.length) {f : Road → Int → Int} {a i : Nat} {st : Int} (h : ReachB n r a i) : ∃ v, Reach (outN n r) f a st i v := by
  induction h with
  | here => exact ⟨_, .here⟩
  | road k hk hb _ ih =>
    obtain ⟨v, hv⟩ := ih
    have ht := wr_total n.roads r hr
    have hkr : k ≠ r := by omega
    have hj : (if k < r then k else k - 1) < (outN n r).roads.length := by
      show _ < (wr n.roads r n.roads.length).length
      split <;> omega
    have e : nth (outN n r).roads (if k < r then k else k - 1) = nth n.roads k := by
      have := wr_get n.roads r hr _ hj
      have e2 : (if (if k < r then k else k - 1) < r then (if k < r then k else k - 1) else (if k < r then k else k - 1) + 1) = k := by
        by_cases h : k < r
        · rw [if_pos h, if_pos h]
        · rw [if_neg h, if_neg (by omega)]; omega
      rw [e2] at this
      exact this
    have := Reach.road (n := outN n r) (f := f) (a := a) (st := st) (v := v) (if k < r then k else k - 1) hj (by rw [e]; exact hv)
    rw [e] at this
    exact ⟨_, this⟩
theorem out_reachB {n : Net} {r : Nat} (hr : r < n.roads.length) {f : Road → Int → Int} {a i : Nat} {st v : Int} (h : Reach (outN n r) f a st i v) : ReachB n r a i := by
  induction h with
  | here => exact .here
  | road k hk _ ih =>
    have ht := wr_total n.roads r hr
    have hk' : k < (wr n.roads r n.roads.length).length := hk
    have e : nth (outN n r).roads k = nth n.roads (if k < r then k else k + 1) := wr_get n.roads r hr k hk'
    rw [e] at ih ⊢
    exact .road _ (by split <;> omega) (by split <;> omega) ih
theorem reachB_all {n : Net} {f : Road → Int → Int} {a i : Nat} {st : Int} (h : ReachB n (-1) a i) : ∃ v, Reach n f a st i v := by
  induction h with
  | here => exact ⟨_, .here⟩
  | road k hk hb _ ih =>
    obtain ⟨v, hv⟩ := ih
    exact ⟨_, .road k hk hv⟩
theorem all_reachB {n : Net} {f : Road → Int → Int} {a i : Nat} {st v : Int} (h : Reach n f a st i v) : ReachB n (-1) a i := by
  induction h with
  | here => exact .here
  | road k hk _ ih => exact .road k hk (by omega) ih
/-- reached: as the labels say -/
theorem reach_label {n : Net} (h : NetOk n) {f : Road → Int → Int} (ha : Along n f) (hm : Mono n f) {a b : Nat} (la : a < n.places.length) (lb : b < n.places.length) {st : Int} (h0 : 0 ≤ st) (h1 : st ≤ 700000) : nth (reachL n (-1) a) b = true ↔ nth (growS f n a st).l b ≠ -1 := by
  have hx := growS_fixed h ha la h0 h1
  rw [reachL_nth n (-1) a b lb]
  constructor
  · intro hr
    obtain ⟨v, hv⟩ := reachB_all (f := f) (st := st) hr
    have := fixed_least h hm hx (Int.le_refl _) hv
    omega
  · intro hne
    rcases hx.reach b lb with e | e
    · exact absurd e hne
    · exact all_reachB e
theorem reach_out_label {n : Net} {r : Nat} (hr : r < n.roads.length) (ho : NetOk (outN n r)) {f : Road → Int → Int} (ha : Along (outN n r) f) (hm : Mono (outN n r) f) {a b : Nat} (la : a < n.places.length) (lb : b < n.places.length) {st : Int} (h0 : 0 ≤ st) (h1 : st ≤ 700000) : nth (reachL n r a) b = true ↔ nth (growS f (outN n r) a st).l b ≠ -1 := by
  have hx := growS_fixed ho ha (a := a) la h0 h1
  rw [reachL_nth n r a b lb]
  constructor
  · intro h
    obtain ⟨v, hv⟩ := reachB_out hr (f := f) (st := st) h
    have := fixed_least ho hm hx (Int.le_refl _) hv
    omega
  · intro hne
    rcases hx.reach b lb with e | e
    · exact absurd e hne
    · exact out_reachB hr e
end Go.Proofs.Ytmkahgnfoefnjaa
namespace Go.Proofs.Ytmkahgnfoefnjaa
open Go Go.Fi

/-- the numbers of what is so, in their order -/
def idxL (L : List Bool) : Nat → List Int
  | 0 => []
  | k + 1 => if nth L k = true then idxL L k ++ [(k : Int)] else idxL L k
@[simp] theorem idxL_zero (L : List Bool) : idxL L 0 = [] := by rw [idxL]
theorem idxL_len (L : List Bool) : ∀ k, (idxL L k).length ≤ k
  | 0 => Nat.le_refl _
  | k + 1 => by
    have := idxL_len L k
    simp only [idxL]
    split
    · rw [List.length_append, List.length_singleton]; omega
    · omega
theorem idxL_has (L : List Bool) (b : Nat) : ∀ k, hasI (b : Int) (idxL L k) = decide (b < k ∧ nth L b = true)
  | 0 => by simp [hasI, anyD]
  | k + 1 => by
    have ih := idxL_has L b k
    unfold hasI anyD at *
    rw [List.drop_zero] at *
    simp only [idxL]
    by_cases h : nth L k = true
    · rw [if_pos h, List.any_append, ih]
      by_cases e : b = k
      · subst e
        rw [decide_eq_true (And.intro (Nat.lt_succ_self b) h)]; simp
      · have : ([(k : Int)].any fun y => decide (y = (b : Int))) = false := by simp; omega
        rw [this, Bool.or_false]
        apply decide_eq_decide.2
        constructor
        · intro ⟨h1, h2⟩; exact ⟨by omega, h2⟩
        · intro ⟨h1, h2⟩; exact ⟨by omega, h2⟩
    · rw [if_neg h, ih]
      apply decide_eq_decide.2
      constructor
      · intro ⟨h1, h2⟩; exact ⟨by omega, h2⟩
      · intro ⟨h1, h2⟩
        refine ⟨?_, h2⟩
        by_cases e : b = k
        · subst e; exact absurd h2 h
        · omega
theorem reaches_bad (n : Net) (h : NetIn n) (x : Int) (he : hE n x ≠ 0) : RealCall Try.prog 6 [aNet n, .int .i64 x] (.tup [.sl 0 [], .int .i64 (hE n x)]) true := by
  have co := open_c n h
  have pa := placeErr_c n x h.np
  have cf := first2_c (netS n).2.2 (errUnless (winB x 0 (n.places.length - 1)) 6)
  unfold hE at *
  generalize (netS n).2.2 = ne at *
  generalize errUnless (winB x 0 (n.places.length - 1)) 6 = ex at *
  generalize firstS [ne, ex] = e at *
  clear h
  unfold aNet cNet at *
  refine realcall_intro Try.func6 (by kernel_rfl) rfl (Nat.le_of_ble_eq_true (by kernel_rfl)) ?_
  simp only [Try.results6, Try.ntmps6]
  repeat' (first | (with_reducible first | refine awp_seq ?_ | refine awp_blockS ?_ | refine awp_blockC ?_ | refine awp_blockR ?_ | refine awp_skip ?_ | refine awp_ret ?_ | refine awp_exit ?_ | refine awp_region ?_ | refine awp_condM ?_ | refine And.intro ?_ ?_ | refine gE_splitN ?_ ?_ | refine gE_split ?_ ?_ | refine gQ_splitN ?_ ?_ | refine gQ_split ?_ ?_ | refine gM_splitN ?_ ?_ | refine gM_split ?_ ?_ | refine condM_splitDN ?_ ?_ | refine condM_splitD ?_ ?_ | refine condM_splitN ?_ ?_ | refine condM_split ?_ ?_ | refine condM_any ?_ ?_ | refine cw (co) ?_ | refine cw (pa) ?_ | refine cw (cf) ?_ | intro _) | (simp [*, he]))
set_option maxHeartbeats 8000000 in
set_option maxRecDepth 20000 in
theorem reaches_ok (n : Net) (h : NetIn n) (a : Nat) (la : a < n.places.length) (he : hE n a = 0) :
    RealCall Try.prog 6 [aNet n, .int .i64 a] (.tup [.sl (idxL (reachL n (-1) a) n.places.length).length (ints (idxL (reachL n (-1) a) n.places.length)), .int .i64 0]) true := by
  have e1 : (netS n).2.2 = 0 := firstS_nth he 0 (show (0 : Nat) < 2 by omega)
  have ok := net_ok h e1
  have hnp := h.np
  have co := open_c n h
  have pa := placeErr_c n a h.np
  have cf := first2_c (netS n).2.2 (errUnless (winB (a : Int) 0 (n.places.length - 1)) 6)
  have c0 := reached_c n ok a la (-1)
  have hl := reachL_len n (-1) a
  unfold hE at he
  rw [he] at cf
  clear h e1 ok he
  generalize (netS n).2.2 = ne at *
  generalize errUnless (winB (a : Int) 0 (n.places.length - 1)) 6 = ex at *
  generalize reachL n (-1) a = L at *
  unfold aNet cNet at *
  refine realcall_intro Try.func6 (by kernel_rfl) rfl (Nat.le_of_ble_eq_true (by kernel_rfl)) ?_
  simp only [Try.results6, Try.ntmps6]
  repeat' (first | (with_reducible first | refine awp_seq ?_ | refine awp_blockS ?_ | refine awp_blockC ?_ | refine awp_blockR ?_ | refine awp_skip ?_ | refine awp_ret ?_ | refine awp_exit ?_ | refine awp_region ?_ | refine awp_condM ?_ | refine And.intro ?_ ?_ | refine gE_splitN ?_ ?_ | refine gE_split ?_ ?_ | refine gQ_splitN ?_ ?_ | refine gQ_split ?_ ?_ | refine gM_splitN ?_ ?_ | refine gM_split ?_ ?_ | refine condM_splitDN ?_ ?_ | refine condM_splitD ?_ ?_ | refine condM_splitN ?_ ?_ | refine condM_split ?_ ?_ | refine condM_any ?_ ?_ | refine cw (co) ?_ | refine cw (pa) ?_ | refine cw (cf) ?_ | refine cw (c0) ?_ | intro _) | (simp [*]))
  all_goals try omega
  clear co pa cf c0
  refine awp_for4 4 (fun (k : Nat) => k ≤ n.places.length) [27, 28] (fun (k : Nat) => [(8, .msl 3 (idxL L k).length 1 0 (idxL L k).length), (29, .w false false (.int .i64 k))]) [] (fun (k : Nat) => [(3, iA (idxL L k))]) (fun (k : Nat) => n.places.length - k) (fun (_u : Unit) => True) [] (fun (_u : Unit) => [(8, .msl 3 (idxL L n.places.length).length 1 0 (idxL L n.places.length).length)]) [] (fun (_u : Unit) => [(3, iA (idxL L n.places.length))]) (0) (Nat.zero_le _) (le_gen [] (by simp) (by simp)) (fun k hk => ?_) (fun _u hf => ?_)
  · by_cases hlt : k < n.places.length
    · have hil := idxL_len L k
      have klt : k < L.length := by omega
      cases hv : nth L k with
      | true =>
        have e : idxL L (k + 1) = idxL L k ++ [(k : Int)] := by simp only [idxL]; rw [if_pos hv]
        have ke := keep e
        clear e
        repeat' (first | (with_reducible first | refine awp_seq ?_ | refine awp_blockS ?_ | refine awp_blockC ?_ | refine awp_blockR ?_ | refine awp_skip ?_ | refine awp_ret ?_ | refine awp_exit ?_ | refine awp_region ?_ | refine awp_condM ?_ | refine And.intro ?_ ?_ | refine gE_splitN ?_ ?_ | refine gE_split ?_ ?_ | refine gQ_splitN ?_ ?_ | refine gQ_split ?_ ?_ | refine gM_splitN ?_ ?_ | refine gM_split ?_ ?_ | refine condM_splitDN ?_ ?_ | refine condM_splitD ?_ ?_ | refine condM_splitN ?_ ?_ | refine condM_split ?_ ?_ | refine condM_any ?_ ?_ | intro _) | (simp [*, hlt, klt, hv]))
        all_goals first
          | exact inI64 (by omega) (by omega)
          | omega
          | (rw [keep_def] at ke; (refine loopK_normal _ _ _ _ _ (k + 1) _ ?_ (by first | omega | (dsimp only; omega) | (simp; omega)) ?_; (· omega); (refine le_of ?_ ?_ <;> first | trivial | (simp [*, ke]; done))))
          | skip
      | false =>
        have e : idxL L (k + 1) = idxL L k := by simp only [idxL]; rw [if_neg (by rw [hv]; decide)]
        have ke := keep e
        clear e
        repeat' (first | (with_reducible first | refine awp_seq ?_ | refine awp_blockS ?_ | refine awp_blockC ?_ | refine awp_blockR ?_ | refine awp_skip ?_ | refine awp_ret ?_ | refine awp_exit ?_ | refine awp_region ?_ | refine awp_condM ?_ | refine And.intro ?_ ?_ | refine gE_splitN ?_ ?_ | refine gE_split ?_ ?_ | refine gQ_splitN ?_ ?_ | refine gQ_split ?_ ?_ | refine gM_splitN ?_ ?_ | refine gM_split ?_ ?_ | refine condM_splitDN ?_ ?_ | refine condM_splitD ?_ ?_ | refine condM_splitN ?_ ?_ | refine condM_split ?_ ?_ | refine condM_any ?_ ?_ | intro _) | (simp [*, hlt, klt, hv]))
        all_goals first
          | exact inI64 (by omega) (by omega)
          | omega
          | (rw [keep_def] at ke; (refine loopK_normal _ _ _ _ _ (k + 1) _ ?_ (by first | omega | (dsimp only; omega) | (simp; omega)) ?_; (· omega); (refine le_of ?_ ?_ <;> first | trivial | (simp [*, ke]; done))))
          | skip
    · have hke : k = n.places.length := by omega
      subst hke
      repeat' (first | (with_reducible first | refine awp_seq ?_ | refine awp_blockS ?_ | refine awp_blockC ?_ | refine awp_blockR ?_ | refine awp_skip ?_ | refine awp_ret ?_ | refine awp_exit ?_ | refine awp_region ?_ | refine awp_condM ?_ | refine And.intro ?_ ?_ | refine gE_splitN ?_ ?_ | refine gE_split ?_ ?_ | refine gQ_splitN ?_ ?_ | refine gQ_split ?_ ?_ | refine gM_splitN ?_ ?_ | refine gM_split ?_ ?_ | refine condM_splitDN ?_ ?_ | refine condM_splitD ?_ ?_ | refine condM_splitN ?_ ?_ | refine condM_split ?_ ?_ | refine condM_any ?_ ?_ | intro _) | (simp [*]))
      all_goals (refine finW_intro () ?_ ?_; (· trivial); (refine le_of ?_ ?_ <;> first | trivial | (simp [*]; done)))
  · repeat' (first | (with_reducible first | refine awp_seq ?_ | refine awp_blockS ?_ | refine awp_blockC ?_ | refine awp_blockR ?_ | refine awp_skip ?_ | refine awp_ret ?_ | refine awp_exit ?_ | refine awp_region ?_ | refine awp_condM ?_ | refine And.intro ?_ ?_ | refine gE_splitN ?_ ?_ | refine gE_split ?_ ?_ | refine gQ_splitN ?_ ?_ | refine gQ_split ?_ ?_ | refine gM_splitN ?_ ?_ | refine gM_split ?_ ?_ | refine condM_splitDN ?_ ?_ | refine condM_splitD ?_ ?_ | refine condM_splitN ?_ ?_ | refine condM_split ?_ ?_ | refine condM_any ?_ ?_ | intro _) | (simp [*]))
set_option maxHeartbeats 8000000 in
set_option maxRecDepth 20000 in
theorem rReaches_c (n : Net) (ok : NetOk n) (a : Nat) (la : a < n.places.length) :
    RealCall Try.prog 14 [aNet n, .int .i64 a] (.sl (idxL (reachL n (-1) a) n.places.length).length (ints (idxL (reachL n (-1) a) n.places.length))) true := by
  have hnp := ok.np
  have c0 := rHeights_c n ok a la
  have hi := growS_inv ok (along_len ok) la (Int.le_refl 0) (by omega)
  have hG : ∀ k, k < n.places.length → (nth (reachL n (-1) a) k = true ↔ 0 ≤ nth (growS fLen n a 0).l k) := fun k hk => by
    have := hi.small ok (i := k) hk
    rw [reach_label ok (along_len ok) len_mono la hk (Int.le_refl 0) (by omega)]
    omega
  have hl := hi.ll
  have kG := keep hG
  clear hi hG ok
  generalize reachL n (-1) a = L at *
  generalize (growS fLen n a 0).l = H at *
  unfold aNet cNet at *
  refine realcall_intro Try.func14 (by kernel_rfl) rfl (Nat.le_of_ble_eq_true (by kernel_rfl)) ?_
  simp only [Try.results14, Try.ntmps14]
  repeat' (first | (with_reducible first | refine awp_seq ?_ | refine awp_blockS ?_ | refine awp_blockC ?_ | refine awp_blockR ?_ | refine awp_skip ?_ | refine awp_ret ?_ | refine awp_exit ?_ | refine awp_region ?_ | refine awp_condM ?_ | refine And.intro ?_ ?_ | refine gE_splitN ?_ ?_ | refine gE_split ?_ ?_ | refine gQ_splitN ?_ ?_ | refine gQ_split ?_ ?_ | refine gM_splitN ?_ ?_ | refine gM_split ?_ ?_ | refine condM_splitDN ?_ ?_ | refine condM_splitD ?_ ?_ | refine condM_splitN ?_ ?_ | refine condM_split ?_ ?_ | refine condM_any ?_ ?_ | refine cw (c0) ?_ | intro _) | (simp [*]))
  all_goals try omega
  clear c0
  refine awp_for4 2 (fun (k : Nat) => k ≤ n.places.length) [6] (fun (k : Nat) => [(5, .msl 1 (idxL L k).length 1 0 (idxL L k).length), (7, .w false false (.int .i64 k))]) [] (fun (k : Nat) => [(1, iA (idxL L k))]) (fun (k : Nat) => n.places.length - k) (fun (_u : Unit) => True) [] (fun (_u : Unit) => [(5, .msl 1 (idxL L n.places.length).length 1 0 (idxL L n.places.length).length)]) [] (fun (_u : Unit) => [(1, iA (idxL L n.places.length))]) (0) (Nat.zero_le _) (le_gen [] (by simp) (by simp)) (fun k hk => ?_) (fun _u hf => ?_)
  · by_cases hlt : k < n.places.length
    · have hil := idxL_len L k
      have klt : k < H.length := by omega
      have iff := kG k hlt
      by_cases hv : 0 ≤ nth H k
      · have e : idxL L (k + 1) = idxL L k ++ [(k : Int)] := by simp only [idxL]; rw [if_pos (iff.2 hv)]
        have ke := keep e
        clear e iff
        repeat' (first | (with_reducible first | refine awp_seq ?_ | refine awp_blockS ?_ | refine awp_blockC ?_ | refine awp_blockR ?_ | refine awp_skip ?_ | refine awp_ret ?_ | refine awp_exit ?_ | refine awp_region ?_ | refine awp_condM ?_ | refine And.intro ?_ ?_ | refine gE_splitN ?_ ?_ | refine gE_split ?_ ?_ | refine gQ_splitN ?_ ?_ | refine gQ_split ?_ ?_ | refine gM_splitN ?_ ?_ | refine gM_split ?_ ?_ | refine condM_splitDN ?_ ?_ | refine condM_splitD ?_ ?_ | refine condM_splitN ?_ ?_ | refine condM_split ?_ ?_ | refine condM_any ?_ ?_ | intro _) | (simp [*, hlt, klt, hv]))
        all_goals first
          | exact inI64 (by omega) (by omega)
          | omega
          | (rw [keep_def] at ke; (refine loopK_normal _ _ _ _ _ (k + 1) _ ?_ (by first | omega | (dsimp only; omega) | (simp; omega)) ?_; (· omega); (refine le_of ?_ ?_ <;> first | trivial | (simp [*, ke]; done))))
          | skip
      · have e : idxL L (k + 1) = idxL L k := by simp only [idxL]; rw [if_neg (fun h => hv (iff.1 h))]
        have ke := keep e
        clear e iff
        repeat' (first | (with_reducible first | refine awp_seq ?_ | refine awp_blockS ?_ | refine awp_blockC ?_ | refine awp_blockR ?_ | refine awp_skip ?_ | refine awp_ret ?_ | refine awp_exit ?_ | refine awp_region ?_ | refine awp_condM ?_ | refine And.intro ?_ ?_ | refine gE_splitN ?_ ?_ | refine gE_split ?_ ?_ | refine gQ_splitN ?_ ?_ | refine gQ_split ?_ ?_ | refine gM_splitN ?_ ?_ | refine gM_split ?_ ?_ | refine condM_splitDN ?_ ?_ | refine condM_splitD ?_ ?_ | refine condM_splitN ?_ ?_ | refine condM_split ?_ ?_ | refine condM_any ?_ ?_ | intro _) | (simp [*, hlt, klt, hv]))
        all_goals first
          | exact inI64 (by omega) (by omega)
          | omega
          | (rw [keep_def] at ke; (refine loopK_normal _ _ _ _ _ (k + 1) _ ?_ (by first | omega | (dsimp only; omega) | (simp; omega)) ?_; (· omega); (refine le_of ?_ ?_ <;> first | trivial | (simp [*, ke]; done))))
          | skip
    · have hke : k = n.places.length := by omega
      subst hke
      repeat' (first | (with_reducible first | refine awp_seq ?_ | refine awp_blockS ?_ | refine awp_blockC ?_ | refine awp_blockR ?_ | refine awp_skip ?_ | refine awp_ret ?_ | refine awp_exit ?_ | refine awp_region ?_ | refine awp_condM ?_ | refine And.intro ?_ ?_ | refine gE_splitN ?_ ?_ | refine gE_split ?_ ?_ | refine gQ_splitN ?_ ?_ | refine gQ_split ?_ ?_ | refine gM_splitN ?_ ?_ | refine gM_split ?_ ?_ | refine condM_splitDN ?_ ?_ | refine condM_splitD ?_ ?_ | refine condM_splitN ?_ ?_ | refine condM_split ?_ ?_ | refine condM_any ?_ ?_ | intro _) | (simp [*]))
      all_goals (refine finW_intro () ?_ ?_; (· trivial); (refine le_of ?_ ?_ <;> first | trivial | (simp [*]; done)))
  · repeat' (first | (with_reducible first | refine awp_seq ?_ | refine awp_blockS ?_ | refine awp_blockC ?_ | refine awp_blockR ?_ | refine awp_skip ?_ | refine awp_ret ?_ | refine awp_exit ?_ | refine awp_region ?_ | refine awp_condM ?_ | refine And.intro ?_ ?_ | refine gE_splitN ?_ ?_ | refine gE_split ?_ ?_ | refine gQ_splitN ?_ ?_ | refine gQ_split ?_ ?_ | refine gM_splitN ?_ ?_ | refine gM_split ?_ ?_ | refine condM_splitDN ?_ ?_ | refine condM_splitD ?_ ?_ | refine condM_splitN ?_ ?_ | refine condM_split ?_ ?_ | refine condM_any ?_ ?_ | intro _) | (simp [*]))
theorem need_out {n : Net} (k : Nat) (hk : k < n.roads.length) {a b : Nat} (lb : b < n.places.length) : nth (reachL (outN n k) (-1) a) b = nth (reachL n k a) b := by
  have i1 := reachL_nth (outN n k) (-1) a b lb
  have i2 := reachL_nth n k a b lb
  have : ReachB (outN n k) (-1) a b ↔ ReachB n k a b := by
    constructor
    · intro h
      obtain ⟨v, hv⟩ := reachB_all (f := fLen) (st := 0) h
      exact out_reachB hk hv
    · intro h
      obtain ⟨v, hv⟩ := reachB_out hk (f := fLen) (st := 0) h
      exact all_reachB hv
  cases h1 : nth (reachL (outN n k) (-1) a) b with
  | true => exact ((i2.2 (this.1 (i1.1 h1)))).symm
  | false =>
    cases h2 : nth (reachL n k a) b with
    | false => rfl
    | true => rw [i1.2 (this.2 (i2.1 h2))] at h1; cases h1
set_option maxHeartbeats 8000000 in
set_option maxRecDepth 20000 in
theorem rNeeded_c (n : Net) (h : NetIn n) (he : (netS n).2.2 = 0) (a b : Nat) (la : a < n.places.length) (lb : b < n.places.length) :
    RealCall Try.prog 17 [aNet n, .agg [.int .i64 a, .int .i64 b]] (.sl (needL n a b n.roads.length).length (ints (needL n a b n.roads.length))) true := by
  have ok := net_ok h he
  have hnp := ok.np
  have hnr := h.nr
  have kw := keep (fun k hk => rWithout_c n h k hk)
  have kr := keep (fun k (hk : k < n.roads.length) => rReaches_c (outN n k) (net_ok (out_in h k) (out_net he k)) a la)
  have kn := keep (fun k hk => need_out (n := n) k hk (a := a) lb)
  clear ok h he
  unfold aNet cNet at *
  refine realcall_intro Try.func17 (by kernel_rfl) rfl (Nat.le_of_ble_eq_true (by kernel_rfl)) ?_
  simp only [Try.results17, Try.ntmps17]
  repeat' (first | (with_reducible first | refine awp_seq ?_ | refine awp_blockS ?_ | refine awp_blockC ?_ | refine awp_blockR ?_ | refine awp_skip ?_ | refine awp_ret ?_ | refine awp_exit ?_ | refine awp_region ?_ | refine awp_regionD (id := 5) 10 mixed (by decide +kernel) ?_ | refine awp_condM ?_ | refine And.intro ?_ ?_ | refine gE_splitN ?_ ?_ | refine gE_split ?_ ?_ | refine gQ_splitN ?_ ?_ | refine gQ_split ?_ ?_ | refine gM_splitN ?_ ?_ | refine gM_split ?_ ?_ | refine condM_splitDN ?_ ?_ | refine condM_splitD ?_ ?_ | refine condM_splitN ?_ ?_ | refine condM_split ?_ ?_ | refine condM_any ?_ ?_ | intro _) | (simp [*]))
  all_goals try omega
  refine awp_for4 3 (fun (k : Nat) => k ≤ n.roads.length) [2, 3] (fun (k : Nat) => [(5, .msl 2 (needL n a b k).length 1 0 (needL n a b k).length), (6, .w false false (.int .i64 k))]) [0, 1] (fun (k : Nat) => [(2, iA (needL n a b k))]) (fun (k : Nat) => n.roads.length - k) (fun (_u : Unit) => True) [] (fun (_u : Unit) => [(5, .msl 2 (needL n a b n.roads.length).length 1 0 (needL n a b n.roads.length).length)]) [] (fun (_u : Unit) => [(2, iA (needL n a b n.roads.length))]) (0) (Nat.zero_le _) (le_gen [] (by simp) (by simp)) (fun k hk => ?_) (fun _u hf => ?_)
  · by_cases hlt : k < n.roads.length
    · have cw1 := kw k hlt
      have cr := kr k hlt
      have hil := idxL_len (reachL (outN n k) (-1) a) (outN n k).places.length
      have hpl : (outN n k).places.length = n.places.length := rfl
      have ch := has_c (idxL (reachL (outN n k) (-1) a) (outN n k).places.length) (by have : (outN n k).places.length ≤ 20 := hnp; omega) b
      rw [idxL_has, kn k hlt] at ch
      have hnl := needL_len n a b k
      have hbl : b < (outN n k).places.length := lb
      generalize idxL (reachL (outN n k) (-1) a) (outN n k).places.length = I at *
      clear hpl
      generalize outN n k = M at *
      cases hv : nth (reachL n k a) b with
      | true =>
        have e : needL n a b (k + 1) = needL n a b k := by
          simp only [needL]; rw [if_pos hv]
        have ke := keep e
        rw [hv, decide_eq_true (And.intro hbl rfl)] at ch
        clear e hv
        repeat' (first | (with_reducible first | refine awp_seq ?_ | refine awp_blockS ?_ | refine awp_blockC ?_ | refine awp_blockR ?_ | refine awp_skip ?_ | refine awp_ret ?_ | refine awp_exit ?_ | refine awp_region ?_ | refine awp_regionD (id := 5) 10 mixed (by decide +kernel) ?_ | refine awp_condM ?_ | refine And.intro ?_ ?_ | refine gE_splitN ?_ ?_ | refine gE_split ?_ ?_ | refine gQ_splitN ?_ ?_ | refine gQ_split ?_ ?_ | refine gM_splitN ?_ ?_ | refine gM_split ?_ ?_ | refine condM_splitDN ?_ ?_ | refine condM_splitD ?_ ?_ | refine condM_splitN ?_ ?_ | refine condM_split ?_ ?_ | refine condM_any ?_ ?_ | refine cw (cw1) ?_ | refine cw (cr) ?_ | refine cw (ch) ?_ | intro _) | (simp [*, hlt]))
        all_goals first
          | exact inI64 (by omega) (by omega)
          | omega
          | (rw [keep_def] at ke; (refine loopK_normal _ _ _ _ _ (k + 1) _ ?_ (by first | omega | (dsimp only; omega) | (simp; omega)) ?_; (· omega); (refine le_of ?_ ?_ <;> first | trivial | (simp [*, ke]; done))))
          | skip
      | false =>
        have e : needL n a b (k + 1) = needL n a b k ++ [(k : Int)] := by
          simp only [needL]; rw [if_neg (by rw [hv]; decide)]
        have ke := keep e
        rw [hv, decide_eq_false (fun h => by cases h.2)] at ch
        clear e hv
        repeat' (first | (with_reducible first | refine awp_seq ?_ | refine awp_blockS ?_ | refine awp_blockC ?_ | refine awp_blockR ?_ | refine awp_skip ?_ | refine awp_ret ?_ | refine awp_exit ?_ | refine awp_region ?_ | refine awp_regionD (id := 5) 10 mixed (by decide +kernel) ?_ | refine awp_condM ?_ | refine And.intro ?_ ?_ | refine gE_splitN ?_ ?_ | refine gE_split ?_ ?_ | refine gQ_splitN ?_ ?_ | refine gQ_split ?_ ?_ | refine gM_splitN ?_ ?_ | refine gM_split ?_ ?_ | refine condM_splitDN ?_ ?_ | refine condM_splitD ?_ ?_ | refine condM_splitN ?_ ?_ | refine condM_split ?_ ?_ | refine condM_any ?_ ?_ | refine cw (cw1) ?_ | refine cw (cr) ?_ | refine cw (ch) ?_ | intro _) | (simp [*, hlt]))
        all_goals first
          | exact inI64 (by omega) (by omega)
          | omega
          | (rw [keep_def] at ke; (refine loopK_normal _ _ _ _ _ (k + 1) _ ?_ (by first | omega | (dsimp only; omega) | (simp; omega)) ?_; (· omega); (refine le_of ?_ ?_ <;> first | trivial | (simp [*, ke]; done))))
          | skip
    · have hke : k = n.roads.length := by omega
      subst hke
      repeat' (first | (with_reducible first | refine awp_seq ?_ | refine awp_blockS ?_ | refine awp_blockC ?_ | refine awp_blockR ?_ | refine awp_skip ?_ | refine awp_ret ?_ | refine awp_exit ?_ | refine awp_region ?_ | refine awp_regionD (id := 5) 10 mixed (by decide +kernel) ?_ | refine awp_condM ?_ | refine And.intro ?_ ?_ | refine gE_splitN ?_ ?_ | refine gE_split ?_ ?_ | refine gQ_splitN ?_ ?_ | refine gQ_split ?_ ?_ | refine gM_splitN ?_ ?_ | refine gM_split ?_ ?_ | refine condM_splitDN ?_ ?_ | refine condM_splitD ?_ ?_ | refine condM_splitN ?_ ?_ | refine condM_split ?_ ?_ | refine condM_any ?_ ?_ | intro _) | (simp [*]))
      all_goals (refine finW_intro () ?_ ?_; (· trivial); (refine le_of ?_ ?_ <;> first | trivial | (simp [*]; done)))
  · repeat' (first | (with_reducible first | refine awp_seq ?_ | refine awp_blockS ?_ | refine awp_blockC ?_ | refine awp_blockR ?_ | refine awp_skip ?_ | refine awp_ret ?_ | refine awp_exit ?_ | refine awp_region ?_ | refine awp_regionD (id := 5) 10 mixed (by decide +kernel) ?_ | refine awp_condM ?_ | refine And.intro ?_ ?_ | refine gE_splitN ?_ ?_ | refine gE_split ?_ ?_ | refine gQ_splitN ?_ ?_ | refine gQ_split ?_ ?_ | refine gM_splitN ?_ ?_ | refine gM_split ?_ ?_ | refine condM_splitDN ?_ ?_ | refine condM_splitD ?_ ?_ | refine condM_splitN ?_ ?_ | refine condM_split ?_ ?_ | refine condM_any ?_ ?_ | intro _) | (simp [*]))
end Go.Proofs.Ytmkahgnfoefnjaa
