/- Contracts of functions for this claim: lemmas alone. -/
import Derived.Test.YtmedbghkldmlhaaP39
import Derived.Test.YtmedbghkldmlhaaP30
set_option linter.unusedSimpArgs false
set_option linter.unusedVariables false
namespace Go.Proofs.Ytmedbghkldmlhaa
open Go Go.Fi

abbrev aPr (x y : Int) : PV := .agg [.int .i64 x, .int .i64 y]
theorem badL_one (n : Net) (l : List Int) : anyD (badL n) [l] 0 = badL n l := by simp [anyD]
theorem badA_one (l : List Int) : anyD badA [l] 0 = badA l := by simp [anyD]
theorem lbl_one (n : Net) (l : List Int) : lblE n [l] = if l.length ≠ n.places.length then 10 else if badA l = true then 2 else 0 := by
  unfold lblE
  rw [badL_one, badA_one]
  unfold badL
  by_cases h : l.length = n.places.length
  · simp [h]
  · simp [h]
theorem not_no {b : Bool} (h : (!b) = false) : b = true := by
  cases b
  · cases h
  · rfl
theorem one_hyp {l : List Int} {B : Nat} (h : l.length < B) : ∀ k, k < [l].length → (nth [l] k).length < B := fun k hk => by
  have e : k = 0 := by simpa using hk
  subst e; exact h
theorem badA_no {l : List Int} (h : badA l = false) : ∀ k, k < l.length → -1 ≤ nth l k ∧ nth l k ≤ 1000000000000000 := fun k hk => by
  have := anyD_no h k hk
  unfold badN at this
  exact win_of (not_no this)
/-- what heights prove -/
def chkS (f : Road → Int → Int) (n : Net) (a b : Nat) (l : List Int) : Int × Int :=
  if nth l a ≠ 0 then (0, 20) else if anyD (badR f l) n.roads 0 = true then (0, 20) else if nth l b = -1 then (0, 12) else (nth l b, 0)
def chS (n : Net) (x y : Int) (l : List Int) : Int × Int :=
  if pE n x y ≠ 0 then (0, pE n x y) else if lblE n [l] ≠ 0 then (0, lblE n [l]) else chkS fLen n x.toNat y.toNat l
theorem first4 (a b c d : Int) : firstS [a, b, c, d] = if firstS [a, b, c] ≠ 0 then firstS [a, b, c] else d := by
  simp only [firstS]
  by_cases ha : a = 0
  · by_cases hb : b = 0
    · by_cases hc : c = 0
      · by_cases hd : d = 0 <;> simp [ha, hb, hc, hd]
      · simp [ha, hb, hc]
    · simp [ha, hb]
  · simp [ha]
theorem lenW_c (r : Road) (m : Int) (hm : 0 ≤ r.metres ∧ r.metres ≤ 100000) (h0 : 0 ≤ m) (h1 : m ≤ 1000000000000000) : RealCall Try.prog 106 [.agg (cRoad r), .int .i64 m] (.int .i64 (fLen r m)) true := by
  unfold cRoad fLen
  refine realcall_intro Try.func106 (by kernel_rfl) rfl (Nat.le_of_ble_eq_true (by kernel_rfl)) ?_
  simp only [Try.results106, Try.ntmps106]
  repeat' (first | (with_reducible first | refine awp_seq ?_ | refine awp_blockS ?_ | refine awp_blockC ?_ | refine awp_blockR ?_ | refine awp_skip ?_ | refine awp_ret ?_ | refine awp_exit ?_ | refine awp_region ?_ | refine awp_condM ?_ | refine And.intro ?_ ?_ | refine gM_splitN ?_ ?_ | refine gM_split ?_ ?_ | refine condM_splitDN ?_ ?_ | refine condM_splitD ?_ ?_ | refine condM_splitN ?_ ?_ | refine condM_split ?_ ?_ | refine condM_any ?_ ?_ | intro _) | (simp [*]))
  all_goals first | exact inI64 (by omega) (by omega) | omega
set_option maxHeartbeats 4000000 in
theorem checkHeights_c (n : Net) (h : NetIn n) (x y : Int) (l : List Int) (hl : l.length < 1000) :
    RealCall Try.prog 39 [aNet n, aPr x y, .sl l.length (ints l)] (.tup [.int .i64 (chS n x y l).1, .int .i64 (chS n x y l).2]) true := by
  have co := open_c n h
  have pa := placeErr_c n x h.np
  have pb := placeErr_c n y h.np
  have cl : RealCall Try.prog 105 [aNet n, .sl 1 [.sl l.length (ints l)]] (.int .i64 (lblE n [l])) true := labelsErr_c n h.np [l] (Nat.le_of_ble_eq_true rfl) (one_hyp hl)
  obtain ⟨e4, he4, c4⟩ : ∃ e4 : Int, e4 = (if pE n x y ≠ 0 then pE n x y else lblE n [l]) ∧ RealCall Try.prog 69 [.sl 4 [.int .i64 (netS n).2.2, .int .i64 (errUnless (winB x 0 (n.places.length - 1)) 6), .int .i64 (errUnless (winB y 0 (n.places.length - 1)) 6), .int .i64 (lblE n [l])]] (.int .i64 e4) true := by
    have := first_c [(netS n).2.2, errUnless (winB x 0 (n.places.length - 1)) 6, errUnless (winB y 0 (n.places.length - 1)) 6, lblE n [l]] (Nat.le_of_ble_eq_true rfl)
    rw [first4] at this
    exact ⟨_, rfl, this⟩
  unfold chS
  by_cases hp : pE n x y = 0
  · rw [if_neg (by simp [hp])] at he4 ⊢
    by_cases hb : lblE n [l] = 0
    · rw [if_neg (by simp [hb])]
      rw [hb] at he4
      subst he4
      obtain ⟨a, b, ok⟩ := pair_ok h hp
      have e1 : (netS n).2.2 = 0 := firstS_nth hp 0 (show (0 : Nat) < 3 by omega)
      rw [lbl_one] at hb
      have hlen : l.length = n.places.length := by
        by_cases he : l.length = n.places.length
        · exact he
        · rw [if_pos he] at hb; cases hb
      rw [if_neg (by simp [hlen])] at hb
      have hA : badA l = false := by
        cases he : badA l with
        | false => rfl
        | true => rw [he, if_pos rfl] at hb; cases hb
      have hv := badA_no hA
      have la := ok.la
      have lb := ok.lb
      obtain rfl : x = a := ok.fa
      obtain rfl : y = b := ok.fb
      have cp : RealCall Try.prog 107 [aNet n, .sl l.length (ints l), .fn 106 []] (.bool (!anyD (badR fLen l) n.roads 0)) true :=
        proves_c fLen n h.nr l hl (fun k hk => by have := (ok.ok.road k hk).frm; have := (ok.ok.road k hk).to; rw [hlen]; omega) 106 [] (fun k hk hne => by
          have hr := ok.ok.road k hk
          have := hr.frm
          have := hv (nth n.roads k).frm.toNat (by omega)
          exact lenW_c _ _ hr.met (by omega) (by omega))
      rw [Int.toNat_natCast, Int.toNat_natCast]
      unfold chkS
      have la' : a < l.length := by omega
      have lb' : b < l.length := by omega
      clear hv hA hb hp ok h hlen e1
      generalize anyD (badR fLen l) n.roads 0 = bad at *
      generalize lblE n [l] = le at *
      unfold aNet cNet at *
      by_cases h0 : nth l a = 0
      · rw [if_neg (by simp [h0])]
        cases bad with
        | true =>
          rw [if_pos rfl]
          refine realcall_intro Try.func39 (by kernel_rfl) rfl (Nat.le_of_ble_eq_true (by kernel_rfl)) ?_
          simp only [Try.results39, Try.ntmps39]
          repeat' (first | (with_reducible first | refine awp_seq ?_ | refine awp_blockS ?_ | refine awp_blockC ?_ | refine awp_blockR ?_ | refine awp_skip ?_ | refine awp_ret ?_ | refine awp_exit ?_ | refine awp_region ?_ | refine awp_regionD (id := 2) 15 mixed (by decide +kernel) ?_ | refine awp_condM ?_ | refine And.intro ?_ ?_ | refine gM_splitN ?_ ?_ | refine gM_split ?_ ?_ | refine condM_splitDN ?_ ?_ | refine condM_splitD ?_ ?_ | refine condM_splitN ?_ ?_ | refine condM_split ?_ ?_ | refine condM_any ?_ ?_ | refine cw (co) ?_ | refine cw (pa) ?_ | refine cw (pb) ?_ | refine cw (cl) ?_ | refine cw (c4) ?_ | refine cw (cp) ?_ | intro _) | (simp [*, h0, la', lb']))
          all_goals try omega
        | false =>
          rw [if_neg (by decide)]
          by_cases h1 : nth l b = -1
          · rw [if_pos h1]
            refine realcall_intro Try.func39 (by kernel_rfl) rfl (Nat.le_of_ble_eq_true (by kernel_rfl)) ?_
            simp only [Try.results39, Try.ntmps39]
            repeat' (first | (with_reducible first | refine awp_seq ?_ | refine awp_blockS ?_ | refine awp_blockC ?_ | refine awp_blockR ?_ | refine awp_skip ?_ | refine awp_ret ?_ | refine awp_exit ?_ | refine awp_region ?_ | refine awp_regionD (id := 2) 15 mixed (by decide +kernel) ?_ | refine awp_condM ?_ | refine And.intro ?_ ?_ | refine gM_splitN ?_ ?_ | refine gM_split ?_ ?_ | refine condM_splitDN ?_ ?_ | refine condM_splitD ?_ ?_ | refine condM_splitN ?_ ?_ | refine condM_split ?_ ?_ | refine condM_any ?_ ?_ | refine cw (co) ?_ | refine cw (pa) ?_ | refine cw (pb) ?_ | refine cw (cl) ?_ | refine cw (c4) ?_ | refine cw (cp) ?_ | intro _) | (simp [*, h0, h1, la', lb']))
            all_goals try omega
          · rw [if_neg h1]
            refine realcall_intro Try.func39 (by kernel_rfl) rfl (Nat.le_of_ble_eq_true (by kernel_rfl)) ?_
            simp only [Try.results39, Try.ntmps39]
            repeat' (first | (with_reducible first | refine awp_seq ?_ | refine awp_blockS ?_ | refine awp_blockC ?_ | refine awp_blockR ?_ | refine awp_skip ?_ | refine awp_ret ?_ | refine awp_exit ?_ | refine awp_region ?_ | refine awp_regionD (id := 2) 15 mixed (by decide +kernel) ?_ | refine awp_condM ?_ | refine And.intro ?_ ?_ | refine gM_splitN ?_ ?_ | refine gM_split ?_ ?_ | refine condM_splitDN ?_ ?_ | refine condM_splitD ?_ ?_ | refine condM_splitN ?_ ?_ | refine condM_split ?_ ?_ | refine condM_any ?_ ?_ | refine cw (co) ?_ | refine cw (pa) ?_ | refine cw (pb) ?_ | refine cw (cl) ?_ | refine cw (c4) ?_ | refine cw (cp) ?_ | intro _) | (simp [*, h0, h1, la', lb']))
            all_goals try omega
      · rw [if_pos h0]
        refine realcall_intro Try.func39 (by kernel_rfl) rfl (Nat.le_of_ble_eq_true (by kernel_rfl)) ?_
        simp only [Try.results39, Try.ntmps39]
        repeat' (first | (with_reducible first | refine awp_seq ?_ | refine awp_blockS ?_ | refine awp_blockC ?_ | refine awp_blockR ?_ | refine awp_skip ?_ | refine awp_ret ?_ | refine awp_exit ?_ | refine awp_region ?_ | refine awp_regionD (id := 2) 15 mixed (by decide +kernel) ?_ | refine awp_condM ?_ | refine And.intro ?_ ?_ | refine gM_splitN ?_ ?_ | refine gM_split ?_ ?_ | refine condM_splitDN ?_ ?_ | refine condM_splitD ?_ ?_ | refine condM_splitN ?_ ?_ | refine condM_split ?_ ?_ | refine condM_any ?_ ?_ | refine cw (co) ?_ | refine cw (pa) ?_ | refine cw (pb) ?_ | refine cw (cl) ?_ | refine cw (c4) ?_ | refine cw (cp) ?_ | intro _) | (simp [*, h0, la', lb']))
        all_goals try omega
    · rw [if_pos hb]
      rw [← he4] at hb ⊢
      clear h hp he4
      generalize lblE n [l] = le at *
      unfold aNet cNet at *
      refine realcall_intro Try.func39 (by kernel_rfl) rfl (Nat.le_of_ble_eq_true (by kernel_rfl)) ?_
      simp only [Try.results39, Try.ntmps39]
      repeat' (first | (with_reducible first | refine awp_seq ?_ | refine awp_blockS ?_ | refine awp_blockC ?_ | refine awp_blockR ?_ | refine awp_skip ?_ | refine awp_ret ?_ | refine awp_exit ?_ | refine awp_region ?_ | refine awp_regionD (id := 2) 15 mixed (by decide +kernel) ?_ | refine awp_condM ?_ | refine And.intro ?_ ?_ | refine gM_splitN ?_ ?_ | refine gM_split ?_ ?_ | refine condM_splitDN ?_ ?_ | refine condM_splitD ?_ ?_ | refine condM_splitN ?_ ?_ | refine condM_split ?_ ?_ | refine condM_any ?_ ?_ | refine cw (co) ?_ | refine cw (pa) ?_ | refine cw (pb) ?_ | refine cw (cl) ?_ | refine cw (c4) ?_ | intro _) | (simp [*, hb]))
      all_goals try omega
  · rw [if_pos hp] at he4 ⊢
    rw [← he4] at hp ⊢
    clear h he4
    generalize lblE n [l] = le at *
    unfold aNet cNet at *
    refine realcall_intro Try.func39 (by kernel_rfl) rfl (Nat.le_of_ble_eq_true (by kernel_rfl)) ?_
    simp only [Try.results39, Try.ntmps39]
    repeat' (first | (with_reducible first | refine awp_seq ?_ | refine awp_blockS ?_ | refine awp_blockC ?_ | refine awp_blockR ?_ | refine awp_skip ?_ | refine awp_ret ?_ | refine awp_exit ?_ | refine awp_region ?_ | refine awp_regionD (id := 2) 15 mixed (by decide +kernel) ?_ | refine awp_condM ?_ | refine And.intro ?_ ?_ | refine gM_splitN ?_ ?_ | refine gM_split ?_ ?_ | refine condM_splitDN ?_ ?_ | refine condM_splitD ?_ ?_ | refine condM_splitN ?_ ?_ | refine condM_split ?_ ?_ | refine condM_any ?_ ?_ | refine cw (co) ?_ | refine cw (pa) ?_ | refine cw (pb) ?_ | refine cw (cl) ?_ | refine cw (c4) ?_ | intro _) | (simp [*, hp]))
    all_goals try omega
end Go.Proofs.Ytmedbghkldmlhaa
