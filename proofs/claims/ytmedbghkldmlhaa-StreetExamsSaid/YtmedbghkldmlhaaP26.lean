/- Contracts of functions for this claim: lemmas alone. -/
import Derived.Test.YtmedbghkldmlhaaP25
set_option linter.unusedSimpArgs false
set_option linter.unusedVariables false
namespace Go.Proofs.Ytmedbghkldmlhaa
open Go Go.Fi

theorem earliest_c (n : Net) (h : NetOk n) (a : Nat) (la : a < n.places.length) (at_ : Int) (h0 : 0 ≤ at_) (h1 : at_ ≤ 700000) :
    RealCall Try.prog 67 [aNet n, .int .i64 a, .int .i64 at_] (.agg [.sl n.places.length (ints (growS (fTime false) n a at_).l), .sl n.places.length (ints (growS (fTime true) n a at_).l)]) true := by
  have c0 := labels_c n h a la at_ h0 h1 false
  have c1 := labels_c n h a la at_ h0 h1 true
  have l0 := (growS_inv h (along_time h false) la h0 h1).ll
  have l1 := (growS_inv h (along_time h true) la h0 h1).ll
  generalize growS (fTime false) n a at_ = s0 at *
  generalize growS (fTime true) n a at_ = s1 at *
  unfold aNet cNet at *
  clear h
  refine realcall_intro Try.func67 (by kernel_rfl) rfl (Nat.le_of_ble_eq_true (by kernel_rfl)) ?_
  simp only [Try.results67, Try.ntmps67]
  repeat' (first | (with_reducible first | refine awp_seq ?_ | refine awp_blockS ?_ | refine awp_blockC ?_ | refine awp_blockR ?_ | refine awp_skip ?_ | refine awp_ret ?_ | refine awp_exit ?_ | refine awp_region ?_ | refine awp_regionD (id := 1) 9 mixed (by decide +kernel) ?_ | refine awp_condM ?_ | refine And.intro ?_ ?_ | refine gM_splitN ?_ ?_ | refine gM_split ?_ ?_ | refine condM_splitDN ?_ ?_ | refine condM_splitD ?_ ?_ | refine condM_splitN ?_ ?_ | refine condM_split ?_ ?_ | refine condM_any ?_ ?_ | refine cw (c0) ?_ | refine cw (c1) ?_ | intro _) | (simp [*, l0, l1]))
theorem rEstimate_c (n : Net) (h : NetOk n) (a b : Nat) (la : a < n.places.length) (lb : b < n.places.length) (at_ : Int) (h0 : 0 ≤ at_) (h1 : at_ ≤ 700000) :
    RealCall Try.prog 51 [aNet n, .agg (tL ⟨a, b, at_⟩)] (.tup [.agg [.int .i64 (nth (growS (fTime false) n a at_).l b), .int .i64 (nth (growS (fTime true) n a at_).l b)], .bool (decide (0 ≤ nth (growS (fTime false) n a at_).l b))]) true := by
  have c0 := earliest_c n h a la at_ h0 h1
  have l0 := (growS_inv h (along_time h false) la h0 h1).ll
  have l1 := (growS_inv h (along_time h true) la h0 h1).ll
  generalize growS (fTime false) n a at_ = s0 at *
  generalize growS (fTime true) n a at_ = s1 at *
  unfold aNet cNet at *
  clear h
  refine realcall_intro Try.func51 (by kernel_rfl) rfl (Nat.le_of_ble_eq_true (by kernel_rfl)) ?_
  simp only [Try.results51, Try.ntmps51]
  repeat' (first | (with_reducible first | refine awp_seq ?_ | refine awp_blockS ?_ | refine awp_blockC ?_ | refine awp_blockR ?_ | refine awp_skip ?_ | refine awp_ret ?_ | refine awp_exit ?_ | refine awp_region ?_ | refine awp_regionS (id := 2) [0, 1, 2, 3, 4, 5, 6, 7, 8, 9, 10, 11, 12, 13, 14, 15, 16, 17, 18, 19] [20, 21] [[], [], [], [], [], [], [], [], [], [], [], [], [], [.slot 4], [.slot 4], [.slot 4], [.slot 4], [.slot 4], [.slot 4], [.slot 4]] [[.slot 4], []] mixed (by decide +kernel) ?_ | refine awp_condM ?_ | refine And.intro ?_ ?_ | refine gM_splitN ?_ ?_ | refine gM_split ?_ ?_ | refine condM_splitDN ?_ ?_ | refine condM_splitD ?_ ?_ | refine condM_splitN ?_ ?_ | refine condM_split ?_ ?_ | refine condM_any ?_ ?_ | refine cw (c0) ?_ | intro _) | (simp [*, l0, l1, lb]))
  all_goals try omega
theorem rLate_c (n : Net) (h : NetOk n) (a b : Nat) (la : a < n.places.length) (lb : b < n.places.length) (t3 at_ : Int) (h0 : 0 ≤ at_) (h1 : at_ ≤ 700000) :
    RealCall Try.prog 97 [aNet n, .agg (tL ⟨a, b, t3⟩), .int .i64 at_] (.int .i64 (nth (growS (fTime true) n a at_).l b)) true := by
  have c0 := rEstimate_c n h a b la lb at_ h0 h1
  generalize growS (fTime false) n a at_ = s0 at *
  generalize growS (fTime true) n a at_ = s1 at *
  unfold aNet cNet at *
  clear h
  refine realcall_intro Try.func97 (by kernel_rfl) rfl (Nat.le_of_ble_eq_true (by kernel_rfl)) ?_
  simp only [Try.results97, Try.ntmps97]
  repeat' (first | (with_reducible first | refine awp_seq ?_ | refine awp_blockS ?_ | refine awp_blockC ?_ | refine awp_blockR ?_ | refine awp_skip ?_ | refine awp_ret ?_ | refine awp_exit ?_ | refine awp_region ?_ | refine awp_condM ?_ | refine And.intro ?_ ?_ | refine gM_splitN ?_ ?_ | refine gM_split ?_ ?_ | refine condM_splitDN ?_ ?_ | refine condM_splitD ?_ ?_ | refine condM_splitN ?_ ?_ | refine condM_split ?_ ?_ | refine condM_any ?_ ?_ | refine cw (c0) ?_ | intro _) | (simp [*]))

def bsF (p : Int → Bool) : Nat → Int → Int → Int
  | 0, i, _ => i
  | m + 1, i, j => if i < j then (if p (ceilS (i + j) 2) = true then bsF p m (ceilS (i + j) 2) j else bsF p m i (ceilS (i + j) 2 - 1)) else i
def inT (n : Net) (t3 : Int) (a b : Nat) (k : Int) : Bool := decide (nth (growS (fTime true) n a k).l b ≤ t3)
def rLatS (n : Net) (t3 : Int) (a b : Nat) : Int :=
  if nth (growS (fTime false) n a 0).l b < 0 then -1
  else if t3 < nth (growS (fTime true) n a 0).l b then -1
  else bsF (inT n t3 a b) 604800 0 604800
theorem inT_c (n : Net) (h : NetOk n) (a b : Nat) (la : a < n.places.length) (lb : b < n.places.length) (t3 k : Int) (h0 : 0 ≤ k) (h1 : k ≤ 700000) :
    ∃ x, RealCall Try.prog 97 [aNet n, .agg (tL ⟨a, b, t3⟩), .int .i64 k] (.int .i64 x) true ∧ inT n t3 a b k = decide (x ≤ t3) :=
  ⟨_, rLate_c n h a b la lb t3 k h0 h1, rfl⟩
theorem ceil2 (i j : Int) (h : i < j) : i < ceilS (i + j) 2 ∧ ceilS (i + j) 2 ≤ j := by
  have := ceilS_ge (i + j) 2 (by omega)
  omega
set_option maxHeartbeats 4000000 in
theorem rLatestFor_c (n : Net) (h : NetOk n) (a b : Nat) (la : a < n.places.length) (lb : b < n.places.length) (t3 : Int) :
    RealCall Try.prog 27 [aNet n, .agg (tL ⟨a, b, t3⟩)] (.int .i64 (rLatS n t3 a b)) true := by
  have c0 := rEstimate_c n h a b la lb 0 (by omega) (by omega)
  have c1 := rLate_c n h a b la lb t3 0 (by omega) (by omega)
  have kc := keep (fun k h0 h1 => inT_c n h a b la lb t3 k h0 h1)
  unfold rLatS
  generalize nth (growS (fTime false) n a 0).l b = x0 at *
  generalize nth (growS (fTime true) n a 0).l b = x1 at *
  generalize inT n t3 a b = p at *
  clear h la lb
  unfold aNet cNet at *
  by_cases hx : x0 < 0
  · have hx' : ¬ 0 ≤ x0 := by omega
    rw [if_pos hx]
    refine realcall_intro Try.func27 (by kernel_rfl) rfl (Nat.le_of_ble_eq_true (by kernel_rfl)) ?_
    simp only [Try.results27, Try.ntmps27]
    repeat' (first | (with_reducible first | refine awp_seq ?_ | refine awp_blockS ?_ | refine awp_blockC ?_ | refine awp_blockR ?_ | refine awp_skip ?_ | refine awp_ret ?_ | refine awp_exit ?_ | refine awp_region ?_ | refine awp_regionD (id := 2) 10 mixed (by decide +kernel) ?_ | refine awp_regionD (id := 7) 7 mixed (by decide +kernel) ?_ | refine awp_condM ?_ | refine And.intro ?_ ?_ | refine gM_splitN ?_ ?_ | refine gM_split ?_ ?_ | refine condM_splitDN ?_ ?_ | refine condM_splitD ?_ ?_ | refine condM_splitN ?_ ?_ | refine condM_split ?_ ?_ | refine condM_any ?_ ?_ | refine cw (c0) ?_ | refine cw (c1) ?_ | intro _) | (simp [*, hx, hx']))
  · have hx' : 0 ≤ x0 := by omega
    rw [if_neg hx]
    by_cases hy : t3 < x1
    · rw [if_pos hy]
      refine realcall_intro Try.func27 (by kernel_rfl) rfl (Nat.le_of_ble_eq_true (by kernel_rfl)) ?_
      simp only [Try.results27, Try.ntmps27]
      repeat' (first | (with_reducible first | refine awp_seq ?_ | refine awp_blockS ?_ | refine awp_blockC ?_ | refine awp_blockR ?_ | refine awp_skip ?_ | refine awp_ret ?_ | refine awp_exit ?_ | refine awp_region ?_ | refine awp_regionD (id := 2) 10 mixed (by decide +kernel) ?_ | refine awp_regionD (id := 7) 7 mixed (by decide +kernel) ?_ | refine awp_condM ?_ | refine And.intro ?_ ?_ | refine gM_splitN ?_ ?_ | refine gM_split ?_ ?_ | refine condM_splitDN ?_ ?_ | refine condM_splitD ?_ ?_ | refine condM_splitN ?_ ?_ | refine condM_split ?_ ?_ | refine condM_any ?_ ?_ | refine cw (c0) ?_ | refine cw (c1) ?_ | intro _) | (simp [*, hx, hx', hy]))
    · rw [if_neg hy]
      generalize hR : bsF p 604800 0 604800 = R at *
      refine realcall_intro Try.func27 (by kernel_rfl) rfl (Nat.le_of_ble_eq_true (by kernel_rfl)) ?_
      simp only [Try.results27, Try.ntmps27]
      repeat' (first | (with_reducible first | refine awp_seq ?_ | refine awp_blockS ?_ | refine awp_blockC ?_ | refine awp_blockR ?_ | refine awp_skip ?_ | refine awp_ret ?_ | refine awp_exit ?_ | refine awp_region ?_ | refine awp_regionD (id := 2) 10 mixed (by decide +kernel) ?_ | refine awp_regionD (id := 7) 7 mixed (by decide +kernel) ?_ | refine awp_condM ?_ | refine And.intro ?_ ?_ | refine gM_splitN ?_ ?_ | refine gM_split ?_ ?_ | refine condM_splitDN ?_ ?_ | refine condM_splitD ?_ ?_ | refine condM_splitN ?_ ?_ | refine condM_split ?_ ?_ | refine condM_any ?_ ?_ | refine cw (c0) ?_ | refine cw (c1) ?_ | intro _) | (simp [*, hx, hx', hy]))
      clear hx hx' hy c0 c1
      refine awp_for3 (fun (x : Nat × Int × Int) => 0 ≤ x.2.1 ∧ x.2.1 ≤ x.2.2 ∧ x.2.2 ≤ 604800 ∧ x.2.2 - x.2.1 ≤ x.1 ∧ bsF p x.1 x.2.1 x.2.2 = R) [2, 3] (fun (x : Nat × Int × Int) => [(7, .w false false (.int .i64 x.2.1)), (8, .w false false (.int .i64 x.2.2))]) [1, 0] (fun (x : Nat × Int × Int) => []) (fun (x : Nat × Int × Int) => x.1) (fun (_u : Unit) => True) [] (fun (_u : Unit) => [(7, .w false false (.int .i64 R))]) [] (fun (_u : Unit) => []) (((604800 : Nat), (0 : Int), (604800 : Int))) ⟨by simp, by simp, by simp, by simp, hR⟩ (by simp) (by simp) (fun x hk => ?_) (fun _u hf => ?_)
      · obtain ⟨m, i, j⟩ := x
        obtain ⟨h1, h2, h3, h4, h5⟩ := hk
        dsimp only at h1 h2 h3 h4 h5 ⊢
        by_cases hlt : i < j
        · cases m with
          | zero => omega
          | succ m =>
            obtain ⟨g1, g2⟩ := ceil2 i j hlt
            have e : bsF p (m + 1) i j = if p (ceilS (i + j) 2) = true then bsF p m (ceilS (i + j) 2) j else bsF p m i (ceilS (i + j) 2 - 1) := if_pos hlt
            rw [e] at h5
            have cc := rCeil_c (i + j) 2 (by omega) (by omega) (by omega)
            generalize ceilS (i + j) 2 = q at *
            obtain ⟨x, hc, hp⟩ := kc q (by omega) (by omega)
            by_cases hq : x ≤ t3
            · rw [if_pos (by rw [hp]; exact decide_eq_true hq)] at h5
              clear e hp
              repeat' (first | (with_reducible first | refine awp_seq ?_ | refine awp_blockS ?_ | refine awp_blockC ?_ | refine awp_blockR ?_ | refine awp_skip ?_ | refine awp_ret ?_ | refine awp_exit ?_ | refine awp_region ?_ | refine awp_regionD (id := 2) 10 mixed (by decide +kernel) ?_ | refine awp_regionD (id := 7) 7 mixed (by decide +kernel) ?_ | refine awp_condM ?_ | refine And.intro ?_ ?_ | refine gM_splitN ?_ ?_ | refine gM_split ?_ ?_ | refine condM_splitDN ?_ ?_ | refine condM_splitD ?_ ?_ | refine condM_splitN ?_ ?_ | refine condM_split ?_ ?_ | refine condM_any ?_ ?_ | refine cw (cc) ?_ | refine cw (hc) ?_ | intro _) | (simp [*, hlt, hq]))
              all_goals first
                | exact inI64 (by omega) (by omega)
                | omega
                | (refine loopK_normal _ _ _ _ _ (m, q, j) _ ?_ (by first | omega | (dsimp only; omega) | (simp; omega)) ?_; (· exact ⟨by dsimp only; omega, by dsimp only; omega, by dsimp only; omega, by dsimp only; omega, h5⟩); (refine le_of ?_ ?_ <;> first | trivial | (simp [*]; done)))
                | skip
            · rw [if_neg (by rw [hp]; simp [hq])] at h5
              clear e hp
              repeat' (first | (with_reducible first | refine awp_seq ?_ | refine awp_blockS ?_ | refine awp_blockC ?_ | refine awp_blockR ?_ | refine awp_skip ?_ | refine awp_ret ?_ | refine awp_exit ?_ | refine awp_region ?_ | refine awp_regionD (id := 2) 10 mixed (by decide +kernel) ?_ | refine awp_regionD (id := 7) 7 mixed (by decide +kernel) ?_ | refine awp_condM ?_ | refine And.intro ?_ ?_ | refine gM_splitN ?_ ?_ | refine gM_split ?_ ?_ | refine condM_splitDN ?_ ?_ | refine condM_splitD ?_ ?_ | refine condM_splitN ?_ ?_ | refine condM_split ?_ ?_ | refine condM_any ?_ ?_ | refine cw (cc) ?_ | refine cw (hc) ?_ | intro _) | (simp [*, hlt, hq]))
              all_goals first
                | exact inI64 (by omega) (by omega)
                | omega
                | (refine loopK_normal _ _ _ _ _ (m, i, q - 1) _ ?_ (by first | omega | (dsimp only; omega) | (simp; omega)) ?_; (· exact ⟨by dsimp only; omega, by dsimp only; omega, by dsimp only; omega, by dsimp only; omega, h5⟩); (refine le_of ?_ ?_ <;> first | trivial | (simp [*]; done)))
                | skip
        · have e : bsF p m i j = i := by
            cases m with
            | zero => rfl
            | succ m => exact if_neg hlt
          rw [e] at h5
          subst h5
          repeat' (first | (with_reducible first | refine awp_seq ?_ | refine awp_blockS ?_ | refine awp_blockC ?_ | refine awp_blockR ?_ | refine awp_skip ?_ | refine awp_ret ?_ | refine awp_exit ?_ | refine awp_region ?_ | refine awp_regionD (id := 2) 10 mixed (by decide +kernel) ?_ | refine awp_regionD (id := 7) 7 mixed (by decide +kernel) ?_ | refine awp_condM ?_ | refine And.intro ?_ ?_ | refine gM_splitN ?_ ?_ | refine gM_split ?_ ?_ | refine condM_splitDN ?_ ?_ | refine condM_splitD ?_ ?_ | refine condM_splitN ?_ ?_ | refine condM_split ?_ ?_ | refine condM_any ?_ ?_ | intro _) | (simp [*, hlt]))
          all_goals (refine finW_intro () ?_ ?_; (· trivial); (refine le_of ?_ ?_ <;> first | trivial | (simp [*]; done)))
      · repeat' (first | (with_reducible first | refine awp_seq ?_ | refine awp_blockS ?_ | refine awp_blockC ?_ | refine awp_blockR ?_ | refine awp_skip ?_ | refine awp_ret ?_ | refine awp_exit ?_ | refine awp_region ?_ | refine awp_regionD (id := 2) 10 mixed (by decide +kernel) ?_ | refine awp_regionD (id := 7) 7 mixed (by decide +kernel) ?_ | refine awp_condM ?_ | refine And.intro ?_ ?_ | refine gM_splitN ?_ ?_ | refine gM_split ?_ ?_ | refine condM_splitDN ?_ ?_ | refine condM_splitD ?_ ?_ | refine condM_splitN ?_ ?_ | refine condM_split ?_ ?_ | refine condM_any ?_ ?_ | intro _) | (simp [*]))
end Go.Proofs.Ytmedbghkldmlhaa
