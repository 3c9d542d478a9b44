/- Contracts of functions for this claim: lemmas alone. -/
import Derived.Test.YtmedbghkldmlhaaP43
set_option linter.unusedSimpArgs false
set_option linter.unusedVariables false
namespace Go.Proofs.Ytmedbghkldmlhaa
open Go Go.Fi

theorem first3 (a b c : Int) : firstS [a, b, c] = if a ≠ 0 then a else if b ≠ 0 then b else c := by
  simp only [firstS]
  by_cases ha : a = 0
  · by_cases hb : b = 0
    · by_cases hc : c = 0 <;> simp [ha, hb, hc]
    · simp [ha, hb]
  · simp [ha]
def rchS (n : Net) (a b : Nat) (l : List Int) : Int × Int :=
  if l.length ≠ n.places.length then (0, 10) else if badA l = true then (0, 2) else chkS fLen n a b l
theorem ch_rch {n : Net} {a b : Nat} {l : List Int} (hp : pE n a b = 0) : chS n a b l = rchS n a b l := by
  unfold chS rchS
  rw [if_neg (by simp [hp]), lbl_one, Int.toNat_natCast, Int.toNat_natCast]
  by_cases h : l.length = n.places.length
  · cases hb : badA l <;> simp [h]
  · simp [h]
theorem badR_no {f : Road → Int → Int} {l : List Int} {r : Road} (h : nth l r.frm.toNat = -1) : badR f l r = false := by unfold badR; rw [decide_eq_true h]; rfl
theorem badR_win {f : Road → Int → Int} {l : List Int} {r : Road} (h : 0 ≤ nth l r.frm.toNat) (h2 : -1 ≤ nth l r.to.toNat) : badR f l r = !winB (nth l r.to.toNat) 0 (f r (nth l r.frm.toNat)) := by
  unfold badR winB
  rw [decide_eq_false (show ¬ nth l r.frm.toNat = -1 by omega)]
  by_cases h1 : nth l r.to.toNat = -1
  · rw [decide_eq_true h1, decide_eq_false (show ¬ 0 ≤ nth l r.to.toNat by omega)]; rfl
  · rw [decide_eq_false h1, decide_eq_true (show 0 ≤ nth l r.to.toNat by omega)]
    by_cases h3 : f r (nth l r.frm.toNat) < nth l r.to.toNat
    · rw [decide_eq_true h3, decide_eq_false (by omega)]; rfl
    · rw [decide_eq_false h3, decide_eq_true (by omega)]; rfl
set_option maxHeartbeats 4000000 in
theorem rCheckHeights_c (n : Net) (h : NetOk n) (a b : Nat) (la : a < n.places.length) (lb : b < n.places.length) (l : List Int) (hl : l.length < 1000) :
    RealCall Try.prog 41 [aNet n, aPr a b, .sl l.length (ints l)] (.tup [.int .i64 (rchS n a b l).1, .int .i64 (rchS n a b l).2]) true := by
  have hnp := h.np
  have hnr := h.nr
  generalize hR : rchS n a b l = R
  unfold rchS at hR
  have kh := keep h
  clear h
  by_cases hlen : l.length = n.places.length
  · rw [if_neg (by simp [hlen])] at hR
    have la' : a < l.length := by omega
    have lb' : b < l.length := by omega
    have kR := keep hR
    clear hR
    unfold aNet cNet
    refine realcall_intro Try.func41 (by kernel_rfl) rfl (Nat.le_of_ble_eq_true (by kernel_rfl)) ?_
    simp only [Try.results41, Try.ntmps41]
    repeat' (first | (with_reducible first | refine awp_seq ?_ | refine awp_blockS ?_ | refine awp_blockC ?_ | refine awp_blockR ?_ | refine awp_skip ?_ | refine awp_ret ?_ | refine awp_exit ?_ | refine awp_region ?_ | refine awp_regionD (id := 14) 23 mixed (by decide +kernel) ?_ | refine awp_condM ?_ | refine And.intro ?_ ?_ | refine gM_splitN ?_ ?_ | refine gM_split ?_ ?_ | refine condM_splitDN ?_ ?_ | refine condM_splitD ?_ ?_ | refine condM_splitN ?_ ?_ | refine condM_split ?_ ?_ | refine condM_any ?_ ?_ | intro _) | (simp [*, hlen]))
    all_goals try omega
    refine awp_for3 (fun (k : Nat) => k ≤ l.length ∧ anyD badN l k = badA l) [2, 3, 4] (fun (k : Nat) => [(8, .w false false (.int .i64 k))]) [0, 1] (fun (k : Nat) => []) (fun (k : Nat) => l.length - k) (fun (_u : Unit) => badA l = false) [2, 3, 4] (fun (_u : Unit) => []) [0, 1] (fun (_u : Unit) => []) (0) ⟨Nat.zero_le _, rfl⟩ (by simp) (by simp) (fun k hk => ?_) (fun _u hf => ?_)
    · obtain ⟨hk, hj⟩ := hk
      by_cases hlt : k < l.length
      · rw [anyD_step _ _ _ hlt] at hj
        have cw1 := rWithin_c (nth l k) (-1) 1000000000000000
        cases hw : winB (nth l k) (-1) 1000000000000000 with
        | true =>
          have e : badN (nth l k) = false := by unfold badN; rw [hw]; rfl
          rw [e, Bool.false_or] at hj
          rw [hw] at cw1
          have kj := keep hj
          clear hj e
          repeat' (first | (with_reducible first | refine awp_seq ?_ | refine awp_blockS ?_ | refine awp_blockC ?_ | refine awp_blockR ?_ | refine awp_skip ?_ | refine awp_ret ?_ | refine awp_exit ?_ | refine awp_region ?_ | refine awp_regionD (id := 14) 23 mixed (by decide +kernel) ?_ | refine awp_condM ?_ | refine And.intro ?_ ?_ | refine gM_splitN ?_ ?_ | refine gM_split ?_ ?_ | refine condM_splitDN ?_ ?_ | refine condM_splitD ?_ ?_ | refine condM_splitN ?_ ?_ | refine condM_split ?_ ?_ | refine condM_any ?_ ?_ | refine cw (cw1) ?_ | intro _) | (simp [*, hlt, hlen]))
          all_goals first
            | exact inI64 (by omega) (by omega)
            | omega
            | (refine loopK_normal _ _ _ _ _ (k + 1) _ ?_ (by first | omega | (dsimp only; omega) | (simp; omega)) ?_; (· exact ⟨by omega, kj⟩); (refine le_of ?_ ?_ <;> first | trivial | (simp [*]; done)))
            | skip
        | false =>
          have e : badN (nth l k) = true := by unfold badN; rw [hw]; rfl
          rw [e, Bool.true_or] at hj
          rw [hw] at cw1
          rw [keep_def, if_pos hj.symm] at kR
          subst kR
          clear hj e
          repeat' (first | (with_reducible first | refine awp_seq ?_ | refine awp_blockS ?_ | refine awp_blockC ?_ | refine awp_blockR ?_ | refine awp_skip ?_ | refine awp_ret ?_ | refine awp_exit ?_ | refine awp_region ?_ | refine awp_regionD (id := 14) 23 mixed (by decide +kernel) ?_ | refine awp_condM ?_ | refine And.intro ?_ ?_ | refine gM_splitN ?_ ?_ | refine gM_split ?_ ?_ | refine condM_splitDN ?_ ?_ | refine condM_splitD ?_ ?_ | refine condM_splitN ?_ ?_ | refine condM_split ?_ ?_ | refine condM_any ?_ ?_ | refine cw (cw1) ?_ | intro _) | (simp [*, hlt, hlen]))
          all_goals try omega
      · have hke : k = l.length := by omega
        subst hke
        rw [anyD_end] at hj
        have kj := keep hj.symm
        clear hj
        repeat' (first | (with_reducible first | refine awp_seq ?_ | refine awp_blockS ?_ | refine awp_blockC ?_ | refine awp_blockR ?_ | refine awp_skip ?_ | refine awp_ret ?_ | refine awp_exit ?_ | refine awp_region ?_ | refine awp_regionD (id := 14) 23 mixed (by decide +kernel) ?_ | refine awp_condM ?_ | refine And.intro ?_ ?_ | refine gM_splitN ?_ ?_ | refine gM_split ?_ ?_ | refine condM_splitDN ?_ ?_ | refine condM_splitD ?_ ?_ | refine condM_splitN ?_ ?_ | refine condM_split ?_ ?_ | refine condM_any ?_ ?_ | intro _) | (simp [*]))
        (refine finW_intro () ?_ ?_; (· exact kj); (refine le_of ?_ ?_ <;> first | trivial | (simp [*]; done)))
    · rw [keep_def, if_neg (by rw [hf]; decide)] at kR
      have hv := badA_no hf
      clear hf
      unfold chkS at kR
      by_cases h0 : nth l a = 0
      · rw [if_neg (by simp [h0])] at kR
        have kR := keep kR
        repeat' (first | (with_reducible first | refine awp_seq ?_ | refine awp_blockS ?_ | refine awp_blockC ?_ | refine awp_blockR ?_ | refine awp_skip ?_ | refine awp_ret ?_ | refine awp_exit ?_ | refine awp_region ?_ | refine awp_regionD (id := 14) 23 mixed (by decide +kernel) ?_ | refine awp_condM ?_ | refine And.intro ?_ ?_ | refine gM_splitN ?_ ?_ | refine gM_split ?_ ?_ | refine condM_splitDN ?_ ?_ | refine condM_splitD ?_ ?_ | refine condM_splitN ?_ ?_ | refine condM_split ?_ ?_ | refine condM_any ?_ ?_ | intro _) | (simp [*, la', h0]))
        all_goals try omega
        refine awp_for3 (fun (k : Nat) => k ≤ n.roads.length ∧ anyD (badR fLen l) n.roads k = anyD (badR fLen l) n.roads 0) [2, 3, 4] (fun (k : Nat) => [(9, .w false false (.int .i64 k))]) [0, 1] (fun (k : Nat) => []) (fun (k : Nat) => n.roads.length - k) (fun (_u : Unit) => anyD (badR fLen l) n.roads 0 = false) [2, 4] (fun (_u : Unit) => []) [1] (fun (_u : Unit) => []) (0) ⟨Nat.zero_le _, rfl⟩ (by simp) (by simp) (fun k hk => ?_) (fun _u hf => ?_)
        · obtain ⟨hk, hj⟩ := hk
          by_cases hlt : k < n.roads.length
          · rw [anyD_step _ _ _ hlt] at hj
            have hok := kh.road k hlt
            have f1 := hok.frm
            have f2 := hok.to
            have hmet := hok.met
            clear hok
            generalize hr : nth n.roads k = r at *
            have t1 : r.frm.toNat < l.length := by omega
            have t2 : r.to.toNat < l.length := by omega
            have v1 := hv r.frm.toNat t1
            have v2 := hv r.to.toNat t2
            by_cases hn1 : 0 ≤ nth l r.frm.toNat
            · have cw1 := rWithin_c (nth l r.to.toNat) 0 (nth l r.frm.toNat + r.metres)
              have e := badR_win (f := fLen) hn1 v2.1
              have e2 : fLen r (nth l r.frm.toNat) = nth l r.frm.toNat + r.metres := rfl
              rw [e2] at e
              cases hw : winB (nth l r.to.toNat) 0 (nth l r.frm.toNat + r.metres) with
              | true =>
                rw [hw] at e cw1
                have e : badR fLen l r = false := e
                rw [e, Bool.false_or] at hj
                have kj := keep hj
                clear hj e e2
                repeat' (first | (with_reducible first | refine awp_seq ?_ | refine awp_blockS ?_ | refine awp_blockC ?_ | refine awp_blockR ?_ | refine awp_skip ?_ | refine awp_ret ?_ | refine awp_exit ?_ | refine awp_region ?_ | refine awp_regionD (id := 14) 23 mixed (by decide +kernel) ?_ | refine awp_condM ?_ | refine And.intro ?_ ?_ | refine gM_splitN ?_ ?_ | refine gM_split ?_ ?_ | refine condM_splitDN ?_ ?_ | refine condM_splitD ?_ ?_ | refine condM_splitN ?_ ?_ | refine condM_split ?_ ?_ | refine condM_any ?_ ?_ | refine cw (cw1) ?_ | intro _) | (simp [*, hlt, hr, cRoad, t1, t2, hn1]))
                all_goals first
                  | exact inI64 (by omega) (by omega)
                  | omega
                  | (refine loopK_normal _ _ _ _ _ (k + 1) _ ?_ (by first | omega | (dsimp only; omega) | (simp; omega)) ?_; (· exact ⟨by omega, kj⟩); (refine le_of ?_ ?_ <;> first | trivial | (simp [*]; done)))
                  | skip
              | false =>
                rw [hw] at e cw1
                have e : badR fLen l r = true := e
                rw [e, Bool.true_or] at hj
                rw [keep_def, if_pos hj.symm] at kR
                subst kR
                clear hj e e2
                repeat' (first | (with_reducible first | refine awp_seq ?_ | refine awp_blockS ?_ | refine awp_blockC ?_ | refine awp_blockR ?_ | refine awp_skip ?_ | refine awp_ret ?_ | refine awp_exit ?_ | refine awp_region ?_ | refine awp_regionD (id := 14) 23 mixed (by decide +kernel) ?_ | refine awp_condM ?_ | refine And.intro ?_ ?_ | refine gM_splitN ?_ ?_ | refine gM_split ?_ ?_ | refine condM_splitDN ?_ ?_ | refine condM_splitD ?_ ?_ | refine condM_splitN ?_ ?_ | refine condM_split ?_ ?_ | refine condM_any ?_ ?_ | refine cw (cw1) ?_ | intro _) | (simp [*, hlt, hr, cRoad, t1, t2, hn1]))
                all_goals first
                  | exact inI64 (by omega) (by omega)
                  | omega
                  | skip
            · have e : badR fLen l r = false := badR_no (by omega)
              rw [e, Bool.false_or] at hj
              have kj := keep hj
              clear hj e
              repeat' (first | (with_reducible first | refine awp_seq ?_ | refine awp_blockS ?_ | refine awp_blockC ?_ | refine awp_blockR ?_ | refine awp_skip ?_ | refine awp_ret ?_ | refine awp_exit ?_ | refine awp_region ?_ | refine awp_regionD (id := 14) 23 mixed (by decide +kernel) ?_ | refine awp_condM ?_ | refine And.intro ?_ ?_ | refine gM_splitN ?_ ?_ | refine gM_split ?_ ?_ | refine condM_splitDN ?_ ?_ | refine condM_splitD ?_ ?_ | refine condM_splitN ?_ ?_ | refine condM_split ?_ ?_ | refine condM_any ?_ ?_ | intro _) | (simp [*, hlt, hr, cRoad, t1, t2, hn1]))
              all_goals first
                | exact inI64 (by omega) (by omega)
                | omega
                | (refine loopK_normal _ _ _ _ _ (k + 1) _ ?_ (by first | omega | (dsimp only; omega) | (simp; omega)) ?_; (· exact ⟨by omega, kj⟩); (refine le_of ?_ ?_ <;> first | trivial | (simp [*]; done)))
                | skip
          · have hke : k = n.roads.length := by omega
            subst hke
            rw [anyD_end] at hj
            have kj := keep hj.symm
            clear hj
            repeat' (first | (with_reducible first | refine awp_seq ?_ | refine awp_blockS ?_ | refine awp_blockC ?_ | refine awp_blockR ?_ | refine awp_skip ?_ | refine awp_ret ?_ | refine awp_exit ?_ | refine awp_region ?_ | refine awp_regionD (id := 14) 23 mixed (by decide +kernel) ?_ | refine awp_condM ?_ | refine And.intro ?_ ?_ | refine gM_splitN ?_ ?_ | refine gM_split ?_ ?_ | refine condM_splitDN ?_ ?_ | refine condM_splitD ?_ ?_ | refine condM_splitN ?_ ?_ | refine condM_split ?_ ?_ | refine condM_any ?_ ?_ | intro _) | (simp [*]))
            (refine finW_intro () ?_ ?_; (· exact kj); (refine le_of ?_ ?_ <;> first | trivial | (simp [*]; done)))
        · rw [keep_def, if_neg (by rw [hf]; decide)] at kR
          clear hf
          have v1 := hv b lb'
          by_cases h1 : nth l b = -1
          · rw [if_pos h1] at kR
            subst kR
            repeat' (first | (with_reducible first | refine awp_seq ?_ | refine awp_blockS ?_ | refine awp_blockC ?_ | refine awp_blockR ?_ | refine awp_skip ?_ | refine awp_ret ?_ | refine awp_exit ?_ | refine awp_region ?_ | refine awp_regionD (id := 14) 23 mixed (by decide +kernel) ?_ | refine awp_condM ?_ | refine And.intro ?_ ?_ | refine gM_splitN ?_ ?_ | refine gM_split ?_ ?_ | refine condM_splitDN ?_ ?_ | refine condM_splitD ?_ ?_ | refine condM_splitN ?_ ?_ | refine condM_split ?_ ?_ | refine condM_any ?_ ?_ | intro _) | (simp [*, lb', h1]))
            all_goals try omega
          · rw [if_neg h1] at kR
            subst kR
            have h2 : ¬ nth l b < 0 := by omega
            repeat' (first | (with_reducible first | refine awp_seq ?_ | refine awp_blockS ?_ | refine awp_blockC ?_ | refine awp_blockR ?_ | refine awp_skip ?_ | refine awp_ret ?_ | refine awp_exit ?_ | refine awp_region ?_ | refine awp_regionD (id := 14) 23 mixed (by decide +kernel) ?_ | refine awp_condM ?_ | refine And.intro ?_ ?_ | refine gM_splitN ?_ ?_ | refine gM_split ?_ ?_ | refine condM_splitDN ?_ ?_ | refine condM_splitD ?_ ?_ | refine condM_splitN ?_ ?_ | refine condM_split ?_ ?_ | refine condM_any ?_ ?_ | intro _) | (simp [*, lb', h2]))
            all_goals try omega
      · rw [if_pos h0] at kR
        subst kR
        repeat' (first | (with_reducible first | refine awp_seq ?_ | refine awp_blockS ?_ | refine awp_blockC ?_ | refine awp_blockR ?_ | refine awp_skip ?_ | refine awp_ret ?_ | refine awp_exit ?_ | refine awp_region ?_ | refine awp_regionD (id := 14) 23 mixed (by decide +kernel) ?_ | refine awp_condM ?_ | refine And.intro ?_ ?_ | refine gM_splitN ?_ ?_ | refine gM_split ?_ ?_ | refine condM_splitDN ?_ ?_ | refine condM_splitD ?_ ?_ | refine condM_splitN ?_ ?_ | refine condM_split ?_ ?_ | refine condM_any ?_ ?_ | intro _) | (simp [*, la', h0]))
        all_goals try omega
  · rw [if_pos hlen] at hR
    subst hR
    have hl2 : ¬ ((l.length : Int) = (n.places.length : Int)) := by omega
    unfold aNet cNet
    refine realcall_intro Try.func41 (by kernel_rfl) rfl (Nat.le_of_ble_eq_true (by kernel_rfl)) ?_
    simp only [Try.results41, Try.ntmps41]
    repeat' (first | (with_reducible first | refine awp_seq ?_ | refine awp_blockS ?_ | refine awp_blockC ?_ | refine awp_blockR ?_ | refine awp_skip ?_ | refine awp_ret ?_ | refine awp_exit ?_ | refine awp_region ?_ | refine awp_regionD (id := 14) 23 mixed (by decide +kernel) ?_ | refine awp_condM ?_ | refine And.intro ?_ ?_ | refine gM_splitN ?_ ?_ | refine gM_split ?_ ?_ | refine condM_splitDN ?_ ?_ | refine condM_splitD ?_ ?_ | refine condM_splitN ?_ ?_ | refine condM_split ?_ ?_ | refine condM_any ?_ ?_ | intro _) | (simp [*, hl2, hlen]))
    all_goals try omega
set_option maxHeartbeats 4000000 in
theorem streetHeights_c (hA : RealCall Try.prog 15 [] (.bool true) true) (n : Net) (x y : Int) (l : List Int) : RealCall Try.prog 7 [aNet n, aPr x y, .sl l.length (ints l)] (.bool true) true := by
  have cf := few_c n
  cases hf : fewB n with
  | false =>
    rw [hf] at cf
    unfold aNet cNet at *
    refine realcall_intro Try.func7 (by kernel_rfl) rfl (Nat.le_of_ble_eq_true (by kernel_rfl)) ?_
    simp only [Try.results7, Try.ntmps7]
    repeat' (first | (with_reducible first | refine awp_seq ?_ | refine awp_blockS ?_ | refine awp_blockC ?_ | refine awp_blockR ?_ | refine awp_skip ?_ | refine awp_ret ?_ | refine awp_exit ?_ | refine awp_region ?_ | refine awp_regionD (id := 5) 11 mixed (by decide +kernel) ?_ | refine awp_condM ?_ | refine And.intro ?_ ?_ | refine gM_splitN ?_ ?_ | refine gM_split ?_ ?_ | refine condM_splitDN ?_ ?_ | refine condM_splitD ?_ ?_ | refine condM_splitN ?_ ?_ | refine condM_split ?_ ?_ | refine condM_any ?_ ?_ | refine cw (hA) ?_ | refine cw (cf) ?_ | intro _) | (simp [*]))
  | true =>
    rw [hf] at cf
    have h := few_in hf
    by_cases hl : 22 < l.length
    · unfold aNet cNet at *
      clear h hf
      have hl : (22 : Int) < (l.length : Int) := by omega
      refine realcall_intro Try.func7 (by kernel_rfl) rfl (Nat.le_of_ble_eq_true (by kernel_rfl)) ?_
      simp only [Try.results7, Try.ntmps7]
      repeat' (first | (with_reducible first | refine awp_seq ?_ | refine awp_blockS ?_ | refine awp_blockC ?_ | refine awp_blockR ?_ | refine awp_skip ?_ | refine awp_ret ?_ | refine awp_exit ?_ | refine awp_region ?_ | refine awp_regionD (id := 5) 11 mixed (by decide +kernel) ?_ | refine awp_condM ?_ | refine And.intro ?_ ?_ | refine gM_splitN ?_ ?_ | refine gM_split ?_ ?_ | refine condM_splitDN ?_ ?_ | refine condM_splitD ?_ ?_ | refine condM_splitN ?_ ?_ | refine condM_split ?_ ?_ | refine condM_any ?_ ?_ | refine cw (hA) ?_ | refine cw (cf) ?_ | intro _) | (simp [*, hl]))
      all_goals try omega
    · have hl' : ¬ (22 : Int) < (l.length : Int) := by omega
      have hll : l.length < 1000 := by omega
      have hnp := h.np
      have c4 := rNetErr_c n h
      have cc := rCopy_c n h
      have cv := copyInts_c l (by omega)
      have ch := checkHeights_c n h x y l hll
      have ca := rPlaceErr_c n x hnp
      have cb := rPlaceErr_c n y hnp
      by_cases hp : pE n x y = 0
      · obtain ⟨a, b, ok⟩ := pair_ok h hp
        have e1 : (netS n).2.2 = 0 := firstS_nth hp 0 (show (0 : Nat) < 3 by omega)
        have e2 := firstS_nth hp 1 (show (1 : Nat) < 3 by omega)
        have e3 := firstS_nth hp 2 (show (2 : Nat) < 3 by omega)
        have e2 : errUnless (winB x 0 (n.places.length - 1)) 6 = 0 := e2
        have e3 : errUnless (winB y 0 (n.places.length - 1)) 6 = 0 := e3
        rw [e1] at c4
        rw [e2] at ca
        rw [e3] at cb
        obtain rfl : x = a := ok.fa
        obtain rfl : y = b := ok.fb
        rw [ch_rch hp] at ch
        have cr := rCheckHeights_c n ok.ok a b ok.la ok.lb l hll
        clear ok e1 e2 e3 hp h hf
        generalize rchS n a b l = R at *
        obtain ⟨r1, r2⟩ := R
        dsimp only at *
        unfold aNet cNet at *
        refine realcall_intro Try.func7 (by kernel_rfl) rfl (Nat.le_of_ble_eq_true (by kernel_rfl)) ?_
        simp only [Try.results7, Try.ntmps7]
        repeat' (first | (with_reducible first | refine awp_seq ?_ | refine awp_blockS ?_ | refine awp_blockC ?_ | refine awp_blockR ?_ | refine awp_skip ?_ | refine awp_ret ?_ | refine awp_exit ?_ | refine awp_region ?_ | refine awp_regionD (id := 5) 11 mixed (by decide +kernel) ?_ | refine awp_condM ?_ | refine And.intro ?_ ?_ | refine gM_splitN ?_ ?_ | refine gM_split ?_ ?_ | refine condM_splitDN ?_ ?_ | refine condM_splitD ?_ ?_ | refine condM_splitN ?_ ?_ | refine condM_split ?_ ?_ | refine condM_any ?_ ?_ | refine cw (hA) ?_ | refine cw (cf) ?_ | refine cw (c4) ?_ | refine cw (cc) ?_ | refine cw (cv) ?_ | refine cw (ch) ?_ | refine cw (ca) ?_ | refine cw (cb) ?_ | refine cw (cr) ?_ | intro _) | (simp [*, hl']))
        all_goals try omega
      · have e : chS n x y l = (0, pE n x y) := if_pos hp
        rw [e] at ch
        clear e hf h
        have hd : pE n x y = if (netS n).2.2 ≠ 0 then (netS n).2.2 else if errUnless (winB x 0 (n.places.length - 1)) 6 ≠ 0 then errUnless (winB x 0 (n.places.length - 1)) 6 else errUnless (winB y 0 (n.places.length - 1)) 6 := by
          unfold pE
          exact first3 _ _ _
        generalize errUnless (winB x 0 (n.places.length - 1)) 6 = ex at *
        generalize errUnless (winB y 0 (n.places.length - 1)) 6 = ey at *
        generalize pE n x y = pe at *
        generalize (netS n).2.2 = ne at *
        by_cases h1 : ne = 0
        · rw [if_neg (by simp [h1])] at hd
          by_cases h2 : ex = 0
          · rw [if_neg (by simp [h2])] at hd
            subst h1
            subst h2
            subst hd
            unfold aNet cNet at *
            refine realcall_intro Try.func7 (by kernel_rfl) rfl (Nat.le_of_ble_eq_true (by kernel_rfl)) ?_
            simp only [Try.results7, Try.ntmps7]
            repeat' (first | (with_reducible first | refine awp_seq ?_ | refine awp_blockS ?_ | refine awp_blockC ?_ | refine awp_blockR ?_ | refine awp_skip ?_ | refine awp_ret ?_ | refine awp_exit ?_ | refine awp_region ?_ | refine awp_regionD (id := 5) 11 mixed (by decide +kernel) ?_ | refine awp_condM ?_ | refine And.intro ?_ ?_ | refine gM_splitN ?_ ?_ | refine gM_split ?_ ?_ | refine condM_splitDN ?_ ?_ | refine condM_splitD ?_ ?_ | refine condM_splitN ?_ ?_ | refine condM_split ?_ ?_ | refine condM_any ?_ ?_ | refine cw (hA) ?_ | refine cw (cf) ?_ | refine cw (c4) ?_ | refine cw (cc) ?_ | refine cw (cv) ?_ | refine cw (ch) ?_ | refine cw (ca) ?_ | refine cw (cb) ?_ | intro _) | (simp [*, hl', hp]))
            all_goals try omega
          · rw [if_pos h2] at hd
            subst h1
            subst hd
            unfold aNet cNet at *
            refine realcall_intro Try.func7 (by kernel_rfl) rfl (Nat.le_of_ble_eq_true (by kernel_rfl)) ?_
            simp only [Try.results7, Try.ntmps7]
            repeat' (first | (with_reducible first | refine awp_seq ?_ | refine awp_blockS ?_ | refine awp_blockC ?_ | refine awp_blockR ?_ | refine awp_skip ?_ | refine awp_ret ?_ | refine awp_exit ?_ | refine awp_region ?_ | refine awp_regionD (id := 5) 11 mixed (by decide +kernel) ?_ | refine awp_condM ?_ | refine And.intro ?_ ?_ | refine gM_splitN ?_ ?_ | refine gM_split ?_ ?_ | refine condM_splitDN ?_ ?_ | refine condM_splitD ?_ ?_ | refine condM_splitN ?_ ?_ | refine condM_split ?_ ?_ | refine condM_any ?_ ?_ | refine cw (hA) ?_ | refine cw (cf) ?_ | refine cw (c4) ?_ | refine cw (cc) ?_ | refine cw (cv) ?_ | refine cw (ch) ?_ | refine cw (ca) ?_ | refine cw (cb) ?_ | intro _) | (simp [*, hl', hp]))
            all_goals try omega
        · rw [if_pos h1] at hd
          subst hd
          unfold aNet cNet at *
          refine realcall_intro Try.func7 (by kernel_rfl) rfl (Nat.le_of_ble_eq_true (by kernel_rfl)) ?_
          simp only [Try.results7, Try.ntmps7]
          repeat' (first | (with_reducible first | refine awp_seq ?_ | refine awp_blockS ?_ | refine awp_blockC ?_ | refine awp_blockR ?_ | refine awp_skip ?_ | refine awp_ret ?_ | refine awp_exit ?_ | refine awp_region ?_ | refine awp_regionD (id := 5) 11 mixed (by decide +kernel) ?_ | refine awp_condM ?_ | refine And.intro ?_ ?_ | refine gM_splitN ?_ ?_ | refine gM_split ?_ ?_ | refine condM_splitDN ?_ ?_ | refine condM_splitD ?_ ?_ | refine condM_splitN ?_ ?_ | refine condM_split ?_ ?_ | refine condM_any ?_ ?_ | refine cw (hA) ?_ | refine cw (cf) ?_ | refine cw (c4) ?_ | refine cw (cc) ?_ | refine cw (cv) ?_ | refine cw (ch) ?_ | refine cw (ca) ?_ | refine cw (cb) ?_ | intro _) | (simp [*, hl', hp]))
          all_goals try omega
end Go.Proofs.Ytmedbghkldmlhaa
