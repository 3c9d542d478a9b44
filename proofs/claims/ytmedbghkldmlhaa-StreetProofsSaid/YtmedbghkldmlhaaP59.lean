/- Contracts of functions for this claim: lemmas alone. -/
import Derived.Test.YtmedbghkldmlhaaP58
set_option linter.unusedSimpArgs false
set_option linter.unusedVariables false
namespace Go.Proofs.Ytmedbghkldmlhaa
open Go Go.Fi

def eaE (n : Net) (x at_ : Int) : Int := firstS [(netS n).2.2, errUnless (winB x 0 (n.places.length - 1)) 6, errUnless (winB at_ 0 604800) 2]
theorem earl_bad (n : Net) (h : NetIn n) (x at_ : Int) (he : eaE n x at_ ≠ 0) : RealCall Try.prog 66 [aNet n, .int .i64 x, .int .i64 at_] (.tup [.agg [.sl 0 [], .sl 0 []], .int .i64 (eaE n x at_)]) true := by
  have co := open_c n h
  have pa := placeErr_c n x h.np
  have ct := timeErr_c at_
  have cf := first3_c (netS n).2.2 (errUnless (winB x 0 (n.places.length - 1)) 6) (errUnless (winB at_ 0 604800) 2)
  unfold eaE at *
  generalize (netS n).2.2 = ne at *
  generalize errUnless (winB x 0 (n.places.length - 1)) 6 = ex at *
  generalize errUnless (winB at_ 0 604800) 2 = et at *
  generalize firstS [ne, ex, et] = e at *
  clear h
  unfold aNet cNet at *
  refine realcall_intro Try.func66 (by kernel_rfl) rfl (Nat.le_of_ble_eq_true (by kernel_rfl)) ?_
  simp only [Try.results66, Try.ntmps66]
  repeat' (first | (with_reducible first | refine awp_seq ?_ | refine awp_blockS ?_ | refine awp_blockC ?_ | refine awp_blockR ?_ | refine awp_skip ?_ | refine awp_ret ?_ | refine awp_exit ?_ | refine awp_region ?_ | refine awp_regionD (id := 5) 11 mixed (by decide +kernel) ?_ | refine awp_condM ?_ | refine And.intro ?_ ?_ | refine gM_splitN ?_ ?_ | refine gM_split ?_ ?_ | refine condM_splitDN ?_ ?_ | refine condM_splitD ?_ ?_ | refine condM_splitN ?_ ?_ | refine condM_split ?_ ?_ | refine condM_any ?_ ?_ | refine cw (co) ?_ | refine cw (pa) ?_ | refine cw (ct) ?_ | refine cw (cf) ?_ | intro _) | (simp [*, he]))
theorem earl_ok (n : Net) (h : NetIn n) (a : Nat) (la : a < n.places.length) (at_ : Int) (he : eaE n a at_ = 0) :
    RealCall Try.prog 66 [aNet n, .int .i64 a, .int .i64 at_] (.tup [.agg [.sl n.places.length (ints (growS (fTime false) n a at_).l), .sl n.places.length (ints (growS (fTime true) n a at_).l)], .int .i64 0]) true := by
  have e1 : (netS n).2.2 = 0 := firstS_nth he 0 (show (0 : Nat) < 3 by omega)
  have e3 : errUnless (winB at_ 0 604800) 2 = 0 := firstS_nth he 2 (show (2 : Nat) < 3 by omega)
  have wt := win_of (unless_zero (by decide) e3)
  have ok := net_ok h e1
  have co := open_c n h
  have pa := placeErr_c n a h.np
  have ct := timeErr_c at_
  have cf := first3_c (netS n).2.2 (errUnless (winB (a : Int) 0 (n.places.length - 1)) 6) (errUnless (winB at_ 0 604800) 2)
  have c0 : RealCall Try.prog 93 [aNet n, .int .i64 a, .int .i64 at_, .fn 84 []] (treeP n (growS (fTime false) n a at_)) true := arrivals_c n ok a la at_ wt.1 (by omega) false
  have c1 : RealCall Try.prog 93 [aNet n, .int .i64 a, .int .i64 at_, .fn 85 []] (treeP n (growS (fTime true) n a at_)) true := arrivals_c n ok a la at_ wt.1 (by omega) true
  unfold eaE at he
  rw [he] at cf
  clear h e1 e3 ok he wt
  generalize (netS n).2.2 = ne at *
  generalize errUnless (winB (a : Int) 0 (n.places.length - 1)) 6 = ex at *
  generalize errUnless (winB at_ 0 604800) 2 = et at *
  generalize growS (fTime false) n a at_ = s0 at *
  generalize growS (fTime true) n a at_ = s1 at *
  unfold treeP at c0 c1
  unfold aNet cNet at *
  refine realcall_intro Try.func66 (by kernel_rfl) rfl (Nat.le_of_ble_eq_true (by kernel_rfl)) ?_
  simp only [Try.results66, Try.ntmps66]
  repeat' (first | (with_reducible first | refine awp_seq ?_ | refine awp_blockS ?_ | refine awp_blockC ?_ | refine awp_blockR ?_ | refine awp_skip ?_ | refine awp_ret ?_ | refine awp_exit ?_ | refine awp_region ?_ | refine awp_regionD (id := 5) 11 mixed (by decide +kernel) ?_ | refine awp_condM ?_ | refine And.intro ?_ ?_ | refine gM_splitN ?_ ?_ | refine gM_split ?_ ?_ | refine condM_splitDN ?_ ?_ | refine condM_splitD ?_ ?_ | refine condM_splitN ?_ ?_ | refine condM_split ?_ ?_ | refine condM_any ?_ ?_ | refine cw (co) ?_ | refine cw (pa) ?_ | refine cw (ct) ?_ | refine cw (cf) ?_ | refine cw (c0) ?_ | refine cw (c1) ?_ | intro _) | (simp [*]))
theorem copyLabels_c (s u : List Int) (h1 : s.length < 100000) (h2 : u.length < 100000) : RealCall Try.prog 62 [aLab s u] (aLab s u) true := by
  have c1 := copyInts_c s h1
  have c2 := copyInts_c u h2
  refine realcall_intro Try.func62 (by kernel_rfl) rfl (Nat.le_of_ble_eq_true (by kernel_rfl)) ?_
  simp only [Try.results62, Try.ntmps62]
  repeat' (first | (with_reducible first | refine awp_seq ?_ | refine awp_blockS ?_ | refine awp_blockC ?_ | refine awp_blockR ?_ | refine awp_skip ?_ | refine awp_ret ?_ | refine awp_exit ?_ | refine awp_region ?_ | refine awp_regionD (id := 1) 7 mixed (by decide +kernel) ?_ | refine awp_condM ?_ | refine And.intro ?_ ?_ | refine gM_splitN ?_ ?_ | refine gM_split ?_ ?_ | refine condM_splitDN ?_ ?_ | refine condM_splitD ?_ ?_ | refine condM_splitN ?_ ?_ | refine condM_split ?_ ?_ | refine condM_any ?_ ?_ | refine cw (c1) ?_ | refine cw (c2) ?_ | intro _) | (simp [*]))
/-- the earliest arrivals prove themselves -/
theorem grow_bad {n : Net} (h : NetOk n) (late : Bool) {a : Nat} (la : a < n.places.length) {at_ : Int} (h0 : 0 ≤ at_) (h1 : at_ ≤ 700000) :
    okL late n a at_ (growS (fTime late) n a at_).l = true ∧ badA (growS (fTime late) n a at_).l = false ∧ (growS (fTime late) n a at_).l.length = n.places.length := by
  have hx := growS_fixed h (along_time h late) la h0 h1
  have hl := hx.inv.ll
  have e0 : nth (growS (fTime late) n a at_).l a = at_ := (tr_grow h (along_time h late) (time_mono h late) la h0 h1).la
  have hA : badA (growS (fTime late) n a at_).l = false := anyD_all (fun k hk => by
    have := hx.inv.small h (i := k) (by omega)
    unfold badN winB
    simp; omega) _ 0 rfl (Nat.zero_le _)
  have hR : anyD (badR (fTime late) (growS (fTime late) n a at_).l) n.roads 0 = false := anyD_all (fun k hk => by
    have hr := hx.road k hk
    unfold badR
    by_cases h1 : nth (growS (fTime late) n a at_).l (nth n.roads k).frm.toNat = -1
    · rw [decide_eq_true h1]; rfl
    · have hf : (nth n.roads k).frm.toNat < n.places.length := by have := (h.road k hk).frm; omega
      have := hx.inv.small h hf
      obtain ⟨g1, g2⟩ := hr (by omega)
      rw [decide_eq_false h1, decide_eq_false (show ¬ nth (growS (fTime late) n a at_).l (nth n.roads k).to.toNat = -1 by omega), decide_eq_false (show ¬ fTime late (nth n.roads k) (nth (growS (fTime late) n a at_).l (nth n.roads k).frm.toNat) < nth (growS (fTime late) n a at_).l (nth n.roads k).to.toNat by omega)]; rfl) _ 0 rfl (Nat.zero_le _)
  refine ⟨?_, hA, hl⟩
  unfold okL
  rw [hR, e0, decide_eq_false (show ¬ at_ = -1 by omega), decide_eq_false (show ¬ at_ < at_ by omega)]; rfl
theorem lbl_zero {n : Net} {s u : List Int} (h1 : s.length = n.places.length) (h2 : u.length = n.places.length) (b1 : badA s = false) (b2 : badA u = false) : lblE n [s, u] = 0 := by
  unfold lblE anyD
  simp [badL, h1, h2, b1, b2]
theorem lbl_inv {n : Net} {s u : List Int} (h : lblE n [s, u] = 0) : s.length = n.places.length ∧ u.length = n.places.length := by
  unfold lblE at h
  split at h
  · cases h
  · rename_i h1
    have h1 : anyD (badL n) [s, u] 0 = false := by cases hx : anyD (badL n) [s, u] 0 with | true => exact absurd hx h1 | false => rfl
    have e1 := anyD_no h1 0 (by simp)
    have e2 := anyD_no h1 1 (by simp)
    have e1 : badL n s = false := e1
    have e2 : badL n u = false := e2
    unfold badL at e1 e2
    have e1 := of_decide_eq_false e1
    have e2 := of_decide_eq_false e2
    omega
/-- what is proved by labels holds of all walks -/
theorem ok_low {n : Net} (h : NetOk n) (late : Bool) {a : Nat} {at_ : Int} {l : List Int} (hl : l.length = n.places.length) (hv : ∀ k, k < l.length → -1 ≤ nth l k ∧ nth l k ≤ 1000000000000000) (la : a < n.places.length) (ho : okL late n a at_ l = true) {i : Nat} {v : Int} (hr : Reach n (fTime late) a at_ i v) : 0 ≤ nth l i ∧ nth l i ≤ v := by
  unfold okL at ho
  simp only [Bool.not_eq_true', Bool.or_eq_false_iff, decide_eq_false_iff_not] at ho
  obtain ⟨⟨h1, h2⟩, h3⟩ := ho
  induction hr with
  | here => have := hv a (by omega); omega
  | @road v k hk hr ih =>
    have hb := anyD_no h3 k hk
    unfold badR at hb
    have ht : (nth n.roads k).to.toNat < l.length := by have := (h.road k hk).to; omega
    have := hv _ ht
    rw [decide_eq_false (show ¬ nth l (nth n.roads k).frm.toNat = -1 by omega)] at hb
    simp only [Bool.not_false, Bool.true_and, Bool.or_eq_false_iff, decide_eq_false_iff_not] at hb
    have hm := time_mono h late k _ _ hk ih.1 ih.2
    omega
/-! the reference of the labels -/
set_option maxHeartbeats 4000000 in
theorem rLabelsErr_c (n : Net) (hnp : n.places.length < 1000) (s u : List Int) (h1 : s.length < 1000) (h2 : u.length < 1000) : RealCall Try.prog 116 [aNet n, aLab s u] (.int .i64 (lblE n [s, u])) true := by
  have eL : lblE n [s, u] = if s.length = n.places.length ∧ u.length = n.places.length then (if badA s = true ∨ badA u = true then 2 else 0) else 10 := by
    unfold lblE anyD
    by_cases g1 : s.length = n.places.length
    · by_cases g2 : u.length = n.places.length
      · cases hs : badA s <;> cases hu : badA u <;> simp [badL, g1, g2, hs, hu]
      · simp [badL, g1, g2]
    · simp [badL, g1]
  rw [eL]
  clear eL
  by_cases g1 : s.length = n.places.length
  · by_cases g2 : u.length = n.places.length
    · rw [if_pos ⟨g1, g2⟩]
      generalize hR : (if badA s = true ∨ badA u = true then (2 : Int) else 0) = R
      have kR := keep hR
      clear hR
      have g1i : ¬ ((s.length : Int) ≠ (n.places.length : Int)) := by omega
      unfold aNet cNet
      refine realcall_intro Try.func116 (by kernel_rfl) rfl (Nat.le_of_ble_eq_true (by kernel_rfl)) ?_
      simp only [Try.results116, Try.ntmps116]
      repeat' (first | (with_reducible first | refine awp_seq ?_ | refine awp_blockS ?_ | refine awp_blockC ?_ | refine awp_blockR ?_ | refine awp_skip ?_ | refine awp_ret ?_ | refine awp_exit ?_ | refine awp_region ?_ | refine awp_condM ?_ | refine And.intro ?_ ?_ | refine gM_splitN ?_ ?_ | refine gM_split ?_ ?_ | refine condM_splitDN ?_ ?_ | refine condM_splitD ?_ ?_ | refine condM_splitN ?_ ?_ | refine condM_split ?_ ?_ | refine condM_any ?_ ?_ | intro _) | (simp [*, g1, g2]))
      all_goals try omega
      refine awp_for3 (fun (k : Nat) => k ≤ n.places.length ∧ anyD badN s k = badA s ∧ anyD badN u k = badA u) [2, 3] (fun (k : Nat) => [(5, .w false false (.int .i64 k))]) [0, 1] (fun (k : Nat) => []) (fun (k : Nat) => n.places.length - k) (fun (_u : Unit) => badA s = false ∧ badA u = false) [] (fun (_u : Unit) => []) [] (fun (_u : Unit) => []) (0) ⟨Nat.zero_le _, rfl, rfl⟩ (by simp) (by simp) (fun k hk => ?_) (fun _u hf => ?_)
      · obtain ⟨hk, j1, j2⟩ := hk
        by_cases hlt : k < n.places.length
        · have p1 : k < s.length := by omega
          have p2 : k < u.length := by omega
          rw [anyD_step _ _ _ p1] at j1
          rw [anyD_step _ _ _ p2] at j2
          have c1 := rWithin_c (nth s k) (-1) 1000000000000000
          have c2 := rWithin_c (nth u k) (-1) 1000000000000000
          cases w1 : winB (nth s k) (-1) 1000000000000000 with
          | false =>
            rw [w1] at c1
            have e : badN (nth s k) = true := by unfold badN; rw [w1]; rfl
            rw [e, Bool.true_or] at j1
            rw [keep_def, if_pos (.inl j1.symm)] at kR
            subst kR
            clear j1 j2 e
            repeat' (first | (with_reducible first | refine awp_seq ?_ | refine awp_blockS ?_ | refine awp_blockC ?_ | refine awp_blockR ?_ | refine awp_skip ?_ | refine awp_ret ?_ | refine awp_exit ?_ | refine awp_region ?_ | refine awp_condM ?_ | refine And.intro ?_ ?_ | refine gM_splitN ?_ ?_ | refine gM_split ?_ ?_ | refine condM_splitDN ?_ ?_ | refine condM_splitD ?_ ?_ | refine condM_splitN ?_ ?_ | refine condM_split ?_ ?_ | refine condM_any ?_ ?_ | refine cw (c1) ?_ | intro _) | (simp [*, hlt, p1, p2]))
            all_goals try omega
          | true =>
            rw [w1] at c1
            have e : badN (nth s k) = false := by unfold badN; rw [w1]; rfl
            rw [e, Bool.false_or] at j1
            cases w2 : winB (nth u k) (-1) 1000000000000000 with
            | false =>
              rw [w2] at c2
              have e2 : badN (nth u k) = true := by unfold badN; rw [w2]; rfl
              rw [e2, Bool.true_or] at j2
              rw [keep_def, if_pos (.inr j2.symm)] at kR
              subst kR
              clear j1 j2 e e2
              repeat' (first | (with_reducible first | refine awp_seq ?_ | refine awp_blockS ?_ | refine awp_blockC ?_ | refine awp_blockR ?_ | refine awp_skip ?_ | refine awp_ret ?_ | refine awp_exit ?_ | refine awp_region ?_ | refine awp_condM ?_ | refine And.intro ?_ ?_ | refine gM_splitN ?_ ?_ | refine gM_split ?_ ?_ | refine condM_splitDN ?_ ?_ | refine condM_splitD ?_ ?_ | refine condM_splitN ?_ ?_ | refine condM_split ?_ ?_ | refine condM_any ?_ ?_ | refine cw (c1) ?_ | refine cw (c2) ?_ | intro _) | (simp [*, hlt, p1, p2]))
              all_goals try omega
            | true =>
              rw [w2] at c2
              have e2 : badN (nth u k) = false := by unfold badN; rw [w2]; rfl
              rw [e2, Bool.false_or] at j2
              have kj := keep (And.intro j1 j2)
              clear j1 j2 e e2
              repeat' (first | (with_reducible first | refine awp_seq ?_ | refine awp_blockS ?_ | refine awp_blockC ?_ | refine awp_blockR ?_ | refine awp_skip ?_ | refine awp_ret ?_ | refine awp_exit ?_ | refine awp_region ?_ | refine awp_condM ?_ | refine And.intro ?_ ?_ | refine gM_splitN ?_ ?_ | refine gM_split ?_ ?_ | refine condM_splitDN ?_ ?_ | refine condM_splitD ?_ ?_ | refine condM_splitN ?_ ?_ | refine condM_split ?_ ?_ | refine condM_any ?_ ?_ | refine cw (c1) ?_ | refine cw (c2) ?_ | intro _) | (simp [*, hlt, p1, p2]))
              all_goals first
                | exact inI64 (by omega) (by omega)
                | omega
                | (refine loopK_normal _ _ _ _ _ (k + 1) _ ?_ (by first | omega | (dsimp only; omega) | (simp; omega)) ?_; (· exact ⟨by omega, kj.1, kj.2⟩); (refine le_of ?_ ?_ <;> first | trivial | (simp [*]; done)))
                | skip
        · have hke : k = n.places.length := by omega
          have j1 : badA s = false := by rw [← j1, hke, ← g1]; exact anyD_end _ _
          have j2 : badA u = false := by rw [← j2, hke, ← g2]; exact anyD_end _ _
          have kj := keep (And.intro j1 j2)
          clear j1 j2
          subst hke
          repeat' (first | (with_reducible first | refine awp_seq ?_ | refine awp_blockS ?_ | refine awp_blockC ?_ | refine awp_blockR ?_ | refine awp_skip ?_ | refine awp_ret ?_ | refine awp_exit ?_ | refine awp_region ?_ | refine awp_condM ?_ | refine And.intro ?_ ?_ | refine gM_splitN ?_ ?_ | refine gM_split ?_ ?_ | refine condM_splitDN ?_ ?_ | refine condM_splitD ?_ ?_ | refine condM_splitN ?_ ?_ | refine condM_split ?_ ?_ | refine condM_any ?_ ?_ | intro _) | (simp [*]))
          all_goals (refine finW_intro () ?_ ?_; (· exact kj); (refine le_of ?_ ?_ <;> first | trivial | (simp [*]; done)))
      · rw [keep_def, if_neg (by rw [hf.1, hf.2]; decide)] at kR
        subst kR
        clear hf
        repeat' (first | (with_reducible first | refine awp_seq ?_ | refine awp_blockS ?_ | refine awp_blockC ?_ | refine awp_blockR ?_ | refine awp_skip ?_ | refine awp_ret ?_ | refine awp_exit ?_ | refine awp_region ?_ | refine awp_condM ?_ | refine And.intro ?_ ?_ | refine gM_splitN ?_ ?_ | refine gM_split ?_ ?_ | refine condM_splitDN ?_ ?_ | refine condM_splitD ?_ ?_ | refine condM_splitN ?_ ?_ | refine condM_split ?_ ?_ | refine condM_any ?_ ?_ | intro _) | (simp [*]))
    · rw [if_neg (fun h => g2 h.2)]
      have g2i : ¬ ((u.length : Int) = (n.places.length : Int)) := by omega
      unfold aNet cNet
      refine realcall_intro Try.func116 (by kernel_rfl) rfl (Nat.le_of_ble_eq_true (by kernel_rfl)) ?_
      simp only [Try.results116, Try.ntmps116]
      repeat' (first | (with_reducible first | refine awp_seq ?_ | refine awp_blockS ?_ | refine awp_blockC ?_ | refine awp_blockR ?_ | refine awp_skip ?_ | refine awp_ret ?_ | refine awp_exit ?_ | refine awp_region ?_ | refine awp_condM ?_ | refine And.intro ?_ ?_ | refine gM_splitN ?_ ?_ | refine gM_split ?_ ?_ | refine condM_splitDN ?_ ?_ | refine condM_splitD ?_ ?_ | refine condM_splitN ?_ ?_ | refine condM_split ?_ ?_ | refine condM_any ?_ ?_ | intro _) | (simp [*, g1, g2, g2i]))
      all_goals try omega
  · rw [if_neg (fun h => g1 h.1)]
    have g1i : ¬ ((s.length : Int) = (n.places.length : Int)) := by omega
    unfold aNet cNet
    refine realcall_intro Try.func116 (by kernel_rfl) rfl (Nat.le_of_ble_eq_true (by kernel_rfl)) ?_
    simp only [Try.results116, Try.ntmps116]
    repeat' (first | (with_reducible first | refine awp_seq ?_ | refine awp_blockS ?_ | refine awp_blockC ?_ | refine awp_blockR ?_ | refine awp_skip ?_ | refine awp_ret ?_ | refine awp_exit ?_ | refine awp_region ?_ | refine awp_condM ?_ | refine And.intro ?_ ?_ | refine gM_splitN ?_ ?_ | refine gM_split ?_ ?_ | refine condM_splitDN ?_ ?_ | refine condM_splitD ?_ ?_ | refine condM_splitN ?_ ?_ | refine condM_split ?_ ?_ | refine condM_any ?_ ?_ | intro _) | (simp [*, g1, g1i]))
    all_goals try omega
end Go.Proofs.Ytmedbghkldmlhaa
