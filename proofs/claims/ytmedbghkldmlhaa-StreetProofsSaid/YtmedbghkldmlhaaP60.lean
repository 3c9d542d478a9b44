/- Contracts of functions for this claim: lemmas alone. -/
import Derived.Test.YtmedbghkldmlhaaP59
set_option linter.unusedSimpArgs false
set_option linter.unusedVariables false
namespace Go.Proofs.Ytmedbghkldmlhaa
open Go Go.Fi

set_option maxHeartbeats 4000000 in
set_option maxRecDepth 20000 in
theorem rProves_false (n : Net) (h : NetOk n) (t : Trip) (a : Nat) (fa : t.frm = a) (la : a < n.places.length) (l : List Int) (hlen : l.length = n.places.length) (hv : ∀ k, k < l.length → -1 ≤ nth l k ∧ nth l k ≤ 1000000000000000) :
    RealCall Try.prog 117 [aNet n, .agg (tL t), .sl l.length (ints l), .bool false] (.bool (okL false n a t.at_ l)) true := by
  have hnr := h.nr
  have hnp := h.np
  obtain ⟨t1, t2, t3⟩ := t
  dsimp only at fa ⊢
  subst fa
  have lal : a < l.length := by omega
  have va := hv a lal
  have cw1 := rWithin_c (nth l a) 0 t3
  generalize hR : okL false n a t3 l = R
  by_cases g1 : nth l a = -1 ∨ t3 < nth l a
  · have ew : winB (nth l a) 0 t3 = false := by unfold winB; simp; omega
    have e : R = false := by
      rw [← hR]; unfold okL
      rcases g1 with g | g
      · rw [decide_eq_true g]; rfl
      · rw [decide_eq_true g, Bool.or_true]; rfl
    subst e
    rw [ew] at cw1
    clear h hv hR g1 ew
    unfold aNet cNet
    refine realcall_intro Try.func117 (by kernel_rfl) rfl (Nat.le_of_ble_eq_true (by kernel_rfl)) ?_
    simp only [Try.results117, Try.ntmps117]
    repeat' (first | (with_reducible first | refine awp_seq ?_ | refine awp_blockS ?_ | refine awp_blockC ?_ | refine awp_blockR ?_ | refine awp_skip ?_ | refine awp_ret ?_ | refine awp_exit ?_ | refine awp_region ?_ | refine awp_regionD (id := 1) 9 mixed (by decide +kernel) ?_ | refine awp_regionD (id := 8) 15 mixed (by decide +kernel) ?_ | refine awp_regionD (id := 10) 15 mixed (by decide +kernel) ?_ | refine awp_condM ?_ | refine And.intro ?_ ?_ | refine gM_splitN ?_ ?_ | refine gM_split ?_ ?_ | refine condM_splitDN ?_ ?_ | refine condM_splitD ?_ ?_ | refine condM_splitN ?_ ?_ | refine condM_split ?_ ?_ | refine condM_any ?_ ?_ | refine cw (cw1) ?_ | intro _) | (simp [*, lal]))
    all_goals try omega
  · have ew : winB (nth l a) 0 t3 = true := by unfold winB; simp; omega
    rw [ew] at cw1
    have kR0 : R = !anyD (badR (fTime false) l) n.roads 0 := by
      rw [← hR]; unfold okL
      rw [decide_eq_false (show ¬ nth l a = -1 by omega), decide_eq_false (show ¬ t3 < nth l a by omega)]; rfl
    have kR := keep kR0
    clear kR0
    have kh := keep (And.intro h (And.intro hv hlen))
    clear hR h hv hlen g1 ew
    unfold aNet cNet
    refine realcall_intro Try.func117 (by kernel_rfl) rfl (Nat.le_of_ble_eq_true (by kernel_rfl)) ?_
    simp only [Try.results117, Try.ntmps117]
    repeat' (first | (with_reducible first | refine awp_seq ?_ | refine awp_blockS ?_ | refine awp_blockC ?_ | refine awp_blockR ?_ | refine awp_skip ?_ | refine awp_ret ?_ | refine awp_exit ?_ | refine awp_region ?_ | refine awp_regionD (id := 1) 9 mixed (by decide +kernel) ?_ | refine awp_regionD (id := 8) 15 mixed (by decide +kernel) ?_ | refine awp_regionD (id := 10) 15 mixed (by decide +kernel) ?_ | refine awp_condM ?_ | refine And.intro ?_ ?_ | refine gM_splitN ?_ ?_ | refine gM_split ?_ ?_ | refine condM_splitDN ?_ ?_ | refine condM_splitD ?_ ?_ | refine condM_splitN ?_ ?_ | refine condM_split ?_ ?_ | refine condM_any ?_ ?_ | refine cw (cw1) ?_ | intro _) | (simp [*, lal]))
    all_goals try omega
    clear cw1
    refine awp_for3 (fun (k : Nat) => k ≤ n.roads.length ∧ anyD (badR (fTime false) l) n.roads k = anyD (badR (fTime false) l) n.roads 0) [2, 3, 4] (fun (k : Nat) => [(9, .w false false (.int .i64 k))]) [0] (fun (k : Nat) => []) (fun (k : Nat) => n.roads.length - k) (fun (_u : Unit) => anyD (badR (fTime false) l) n.roads 0 = false) [] (fun (_u : Unit) => []) [] (fun (_u : Unit) => []) (0) ⟨Nat.zero_le _, rfl⟩ (by simp) (by simp) (fun k hk => ?_) (fun _u hf => ?_)
    · obtain ⟨hk, hj⟩ := hk
      by_cases hlt : k < n.roads.length
      · rw [anyD_step _ _ _ hlt] at hj
        have hok := kh.1.road k hlt
        have f1 := hok.frm
        have f2 := hok.to
        have hlen := kh.2.2
        have t1 : (nth n.roads k).frm.toNat < l.length := by omega
        have t2 : (nth n.roads k).to.toNat < l.length := by omega
        have v1 := kh.2.1 _ t1
        have v2 := kh.2.1 _ t2
        have bd0 := fTime_bd kh.1 hlt (nth l (nth n.roads k).frm.toNat) false
        have bd1 := fTime_bd kh.1 hlt (nth l (nth n.roads k).frm.toNat) true
        have ct0 := rTakesR_c (nth n.roads k) (nth l (nth n.roads k).frm.toNat) hok.pts hok.inc
        clear hok hlen
        generalize hr : nth n.roads k = r at *
        by_cases hn1 : nth l r.frm.toNat < 0
        · have e : badR (fTime false) l r = false := badR_no (by omega)
          rw [e, Bool.false_or] at hj
          have kj := keep hj
          clear hj e ct0 bd0 bd1
          repeat' (first | (with_reducible first | refine awp_seq ?_ | refine awp_blockS ?_ | refine awp_blockC ?_ | refine awp_blockR ?_ | refine awp_skip ?_ | refine awp_ret ?_ | refine awp_exit ?_ | refine awp_region ?_ | refine awp_regionD (id := 1) 9 mixed (by decide +kernel) ?_ | refine awp_regionD (id := 8) 15 mixed (by decide +kernel) ?_ | refine awp_regionD (id := 10) 15 mixed (by decide +kernel) ?_ | refine awp_condM ?_ | refine And.intro ?_ ?_ | refine gM_splitN ?_ ?_ | refine gM_split ?_ ?_ | refine condM_splitDN ?_ ?_ | refine condM_splitD ?_ ?_ | refine condM_splitN ?_ ?_ | refine condM_split ?_ ?_ | refine condM_any ?_ ?_ | intro _) | (simp [*, hlt, hr, cRoad, t1, t2, hn1]))
          all_goals first
            | exact inI64 (by omega) (by omega)
            | omega
            | (refine loopK_normal _ _ _ _ _ (k + 1) _ ?_ (by first | omega | (dsimp only; omega) | (simp; omega)) ?_; (· exact ⟨by omega, kj⟩); (refine le_of ?_ ?_ <;> first | trivial | (simp [*]; done)))
            | skip
        · have hn2 : 0 ≤ nth l r.frm.toNat := by omega
          have ct : RealCall Try.prog 23 [.agg [.str r.name, .int .i64 r.frm, .int .i64 r.to, .int .i64 r.metres, .sl r.pts.length (cPts r.pts)], .int .i64 (nth l r.frm.toNat)] (.agg [.int .i64 (takesS r.pts (nth l r.frm.toNat) false), .int .i64 (takesS r.pts (nth l r.frm.toNat) true)]) true := ct0 hn2 (by omega)
          have e := badR_win (f := fTime false) hn2 v2.1
          have e2 : fTime false r (nth l r.frm.toNat) = nth l r.frm.toNat + takesS r.pts (nth l r.frm.toNat) false := rfl
          rw [e2] at e
          clear ct0 e2
          generalize takesS r.pts (nth l r.frm.toNat) false = q0 at *
          generalize takesS r.pts (nth l r.frm.toNat) true = q1 at *
          have cw1 := rWithin_c (nth l r.to.toNat) 0 (nth l r.frm.toNat + q0)
          cases hw : winB (nth l r.to.toNat) 0 (nth l r.frm.toNat + q0) with
          | true =>
            rw [hw] at e cw1
            have e3 : badR (fTime false) l r = false := e
            rw [e3, Bool.false_or] at hj
            have kj := keep hj
            clear hj e e3
            repeat' (first | (with_reducible first | refine awp_seq ?_ | refine awp_blockS ?_ | refine awp_blockC ?_ | refine awp_blockR ?_ | refine awp_skip ?_ | refine awp_ret ?_ | refine awp_exit ?_ | refine awp_region ?_ | refine awp_regionD (id := 1) 9 mixed (by decide +kernel) ?_ | refine awp_regionD (id := 8) 15 mixed (by decide +kernel) ?_ | refine awp_regionD (id := 10) 15 mixed (by decide +kernel) ?_ | refine awp_condM ?_ | refine And.intro ?_ ?_ | refine gM_splitN ?_ ?_ | refine gM_split ?_ ?_ | refine condM_splitDN ?_ ?_ | refine condM_splitD ?_ ?_ | refine condM_splitN ?_ ?_ | refine condM_split ?_ ?_ | refine condM_any ?_ ?_ | refine cw (ct) ?_ | refine cw (cw1) ?_ | intro _) | (simp [*, hlt, hr, cRoad, t1, t2, hn1]))
            all_goals first
              | exact inI64 (by omega) (by omega)
              | omega
              | (refine loopK_normal _ _ _ _ _ (k + 1) _ ?_ (by first | omega | (dsimp only; omega) | (simp; omega)) ?_; (· exact ⟨by omega, kj⟩); (refine le_of ?_ ?_ <;> first | trivial | (simp [*]; done)))
              | skip
          | false =>
            rw [hw] at e cw1
            have e3 : badR (fTime false) l r = true := e
            rw [e3, Bool.true_or] at hj
            have kR2 : R = false := by
              rw [keep_def] at kR
              rw [kR, ← hj]; rfl
            clear hj e e3 kR
            subst kR2
            repeat' (first | (with_reducible first | refine awp_seq ?_ | refine awp_blockS ?_ | refine awp_blockC ?_ | refine awp_blockR ?_ | refine awp_skip ?_ | refine awp_ret ?_ | refine awp_exit ?_ | refine awp_region ?_ | refine awp_regionD (id := 1) 9 mixed (by decide +kernel) ?_ | refine awp_regionD (id := 8) 15 mixed (by decide +kernel) ?_ | refine awp_regionD (id := 10) 15 mixed (by decide +kernel) ?_ | refine awp_condM ?_ | refine And.intro ?_ ?_ | refine gM_splitN ?_ ?_ | refine gM_split ?_ ?_ | refine condM_splitDN ?_ ?_ | refine condM_splitD ?_ ?_ | refine condM_splitN ?_ ?_ | refine condM_split ?_ ?_ | refine condM_any ?_ ?_ | refine cw (ct) ?_ | refine cw (cw1) ?_ | intro _) | (simp [*, hlt, hr, cRoad, t1, t2, hn1]))
            all_goals first
              | exact inI64 (by omega) (by omega)
              | omega
              | skip
      · have hke : k = n.roads.length := by omega
        subst hke
        rw [anyD_end] at hj
        have kj := keep hj.symm
        clear hj
        repeat' (first | (with_reducible first | refine awp_seq ?_ | refine awp_blockS ?_ | refine awp_blockC ?_ | refine awp_blockR ?_ | refine awp_skip ?_ | refine awp_ret ?_ | refine awp_exit ?_ | refine awp_region ?_ | refine awp_regionD (id := 1) 9 mixed (by decide +kernel) ?_ | refine awp_regionD (id := 8) 15 mixed (by decide +kernel) ?_ | refine awp_regionD (id := 10) 15 mixed (by decide +kernel) ?_ | refine awp_condM ?_ | refine And.intro ?_ ?_ | refine gM_splitN ?_ ?_ | refine gM_split ?_ ?_ | refine condM_splitDN ?_ ?_ | refine condM_splitD ?_ ?_ | refine condM_splitN ?_ ?_ | refine condM_split ?_ ?_ | refine condM_any ?_ ?_ | intro _) | (simp [*]))
        (refine finW_intro () ?_ ?_; (· exact kj); (refine le_of ?_ ?_ <;> first | trivial | (simp [*]; done)))
    · have kR2 : R = true := by
        rw [keep_def] at kR
        rw [kR, hf]; rfl
      clear hf kR
      subst kR2
      repeat' (first | (with_reducible first | refine awp_seq ?_ | refine awp_blockS ?_ | refine awp_blockC ?_ | refine awp_blockR ?_ | refine awp_skip ?_ | refine awp_ret ?_ | refine awp_exit ?_ | refine awp_region ?_ | refine awp_regionD (id := 1) 9 mixed (by decide +kernel) ?_ | refine awp_regionD (id := 8) 15 mixed (by decide +kernel) ?_ | refine awp_regionD (id := 10) 15 mixed (by decide +kernel) ?_ | refine awp_condM ?_ | refine And.intro ?_ ?_ | refine gM_splitN ?_ ?_ | refine gM_split ?_ ?_ | refine condM_splitDN ?_ ?_ | refine condM_splitD ?_ ?_ | refine condM_splitN ?_ ?_ | refine condM_split ?_ ?_ | refine condM_any ?_ ?_ | intro _) | (simp [*]))
set_option maxHeartbeats 4000000 in
set_option maxRecDepth 20000 in
theorem rProves_true (n : Net) (h : NetOk n) (t : Trip) (a : Nat) (fa : t.frm = a) (la : a < n.places.length) (l : List Int) (hlen : l.length = n.places.length) (hv : ∀ k, k < l.length → -1 ≤ nth l k ∧ nth l k ≤ 1000000000000000) :
    RealCall Try.prog 117 [aNet n, .agg (tL t), .sl l.length (ints l), .bool true] (.bool (okL true n a t.at_ l)) true := by
  have hnr := h.nr
  have hnp := h.np
  obtain ⟨t1, t2, t3⟩ := t
  dsimp only at fa ⊢
  subst fa
  have lal : a < l.length := by omega
  have va := hv a lal
  have cw1 := rWithin_c (nth l a) 0 t3
  generalize hR : okL true n a t3 l = R
  by_cases g1 : nth l a = -1 ∨ t3 < nth l a
  · have ew : winB (nth l a) 0 t3 = false := by unfold winB; simp; omega
    have e : R = false := by
      rw [← hR]; unfold okL
      rcases g1 with g | g
      · rw [decide_eq_true g]; rfl
      · rw [decide_eq_true g, Bool.or_true]; rfl
    subst e
    rw [ew] at cw1
    clear h hv hR g1 ew
    unfold aNet cNet
    refine realcall_intro Try.func117 (by kernel_rfl) rfl (Nat.le_of_ble_eq_true (by kernel_rfl)) ?_
    simp only [Try.results117, Try.ntmps117]
    repeat' (first | (with_reducible first | refine awp_seq ?_ | refine awp_blockS ?_ | refine awp_blockC ?_ | refine awp_blockR ?_ | refine awp_skip ?_ | refine awp_ret ?_ | refine awp_exit ?_ | refine awp_region ?_ | refine awp_regionD (id := 1) 9 mixed (by decide +kernel) ?_ | refine awp_regionD (id := 8) 15 mixed (by decide +kernel) ?_ | refine awp_regionD (id := 10) 15 mixed (by decide +kernel) ?_ | refine awp_condM ?_ | refine And.intro ?_ ?_ | refine gM_splitN ?_ ?_ | refine gM_split ?_ ?_ | refine condM_splitDN ?_ ?_ | refine condM_splitD ?_ ?_ | refine condM_splitN ?_ ?_ | refine condM_split ?_ ?_ | refine condM_any ?_ ?_ | refine cw (cw1) ?_ | intro _) | (simp [*, lal]))
    all_goals try omega
  · have ew : winB (nth l a) 0 t3 = true := by unfold winB; simp; omega
    rw [ew] at cw1
    have kR0 : R = !anyD (badR (fTime true) l) n.roads 0 := by
      rw [← hR]; unfold okL
      rw [decide_eq_false (show ¬ nth l a = -1 by omega), decide_eq_false (show ¬ t3 < nth l a by omega)]; rfl
    have kR := keep kR0
    clear kR0
    have kh := keep (And.intro h (And.intro hv hlen))
    clear hR h hv hlen g1 ew
    unfold aNet cNet
    refine realcall_intro Try.func117 (by kernel_rfl) rfl (Nat.le_of_ble_eq_true (by kernel_rfl)) ?_
    simp only [Try.results117, Try.ntmps117]
    repeat' (first | (with_reducible first | refine awp_seq ?_ | refine awp_blockS ?_ | refine awp_blockC ?_ | refine awp_blockR ?_ | refine awp_skip ?_ | refine awp_ret ?_ | refine awp_exit ?_ | refine awp_region ?_ | refine awp_regionD (id := 1) 9 mixed (by decide +kernel) ?_ | refine awp_regionD (id := 8) 15 mixed (by decide +kernel) ?_ | refine awp_regionD (id := 10) 15 mixed (by decide +kernel) ?_ | refine awp_condM ?_ | refine And.intro ?_ ?_ | refine gM_splitN ?_ ?_ | refine gM_split ?_ ?_ | refine condM_splitDN ?_ ?_ | refine condM_splitD ?_ ?_ | refine condM_splitN ?_ ?_ | refine condM_split ?_ ?_ | refine condM_any ?_ ?_ | refine cw (cw1) ?_ | intro _) | (simp [*, lal]))
    all_goals try omega
    clear cw1
    refine awp_for3 (fun (k : Nat) => k ≤ n.roads.length ∧ anyD (badR (fTime true) l) n.roads k = anyD (badR (fTime true) l) n.roads 0) [2, 3, 4] (fun (k : Nat) => [(9, .w false false (.int .i64 k))]) [0] (fun (k : Nat) => []) (fun (k : Nat) => n.roads.length - k) (fun (_u : Unit) => anyD (badR (fTime true) l) n.roads 0 = false) [] (fun (_u : Unit) => []) [] (fun (_u : Unit) => []) (0) ⟨Nat.zero_le _, rfl⟩ (by simp) (by simp) (fun k hk => ?_) (fun _u hf => ?_)
    · obtain ⟨hk, hj⟩ := hk
      by_cases hlt : k < n.roads.length
      · rw [anyD_step _ _ _ hlt] at hj
        have hok := kh.1.road k hlt
        have f1 := hok.frm
        have f2 := hok.to
        have hlen := kh.2.2
        have t1 : (nth n.roads k).frm.toNat < l.length := by omega
        have t2 : (nth n.roads k).to.toNat < l.length := by omega
        have v1 := kh.2.1 _ t1
        have v2 := kh.2.1 _ t2
        have bd0 := fTime_bd kh.1 hlt (nth l (nth n.roads k).frm.toNat) false
        have bd1 := fTime_bd kh.1 hlt (nth l (nth n.roads k).frm.toNat) true
        have ct0 := rTakesR_c (nth n.roads k) (nth l (nth n.roads k).frm.toNat) hok.pts hok.inc
        clear hok hlen
        generalize hr : nth n.roads k = r at *
        by_cases hn1 : nth l r.frm.toNat < 0
        · have e : badR (fTime true) l r = false := badR_no (by omega)
          rw [e, Bool.false_or] at hj
          have kj := keep hj
          clear hj e ct0 bd0 bd1
          repeat' (first | (with_reducible first | refine awp_seq ?_ | refine awp_blockS ?_ | refine awp_blockC ?_ | refine awp_blockR ?_ | refine awp_skip ?_ | refine awp_ret ?_ | refine awp_exit ?_ | refine awp_region ?_ | refine awp_regionD (id := 1) 9 mixed (by decide +kernel) ?_ | refine awp_regionD (id := 8) 15 mixed (by decide +kernel) ?_ | refine awp_regionD (id := 10) 15 mixed (by decide +kernel) ?_ | refine awp_condM ?_ | refine And.intro ?_ ?_ | refine gM_splitN ?_ ?_ | refine gM_split ?_ ?_ | refine condM_splitDN ?_ ?_ | refine condM_splitD ?_ ?_ | refine condM_splitN ?_ ?_ | refine condM_split ?_ ?_ | refine condM_any ?_ ?_ | intro _) | (simp [*, hlt, hr, cRoad, t1, t2, hn1]))
          all_goals first
            | exact inI64 (by omega) (by omega)
            | omega
            | (refine loopK_normal _ _ _ _ _ (k + 1) _ ?_ (by first | omega | (dsimp only; omega) | (simp; omega)) ?_; (· exact ⟨by omega, kj⟩); (refine le_of ?_ ?_ <;> first | trivial | (simp [*]; done)))
            | skip
        · have hn2 : 0 ≤ nth l r.frm.toNat := by omega
          have ct : RealCall Try.prog 23 [.agg [.str r.name, .int .i64 r.frm, .int .i64 r.to, .int .i64 r.metres, .sl r.pts.length (cPts r.pts)], .int .i64 (nth l r.frm.toNat)] (.agg [.int .i64 (takesS r.pts (nth l r.frm.toNat) false), .int .i64 (takesS r.pts (nth l r.frm.toNat) true)]) true := ct0 hn2 (by omega)
          have e := badR_win (f := fTime true) hn2 v2.1
          have e2 : fTime true r (nth l r.frm.toNat) = nth l r.frm.toNat + takesS r.pts (nth l r.frm.toNat) true := rfl
          rw [e2] at e
          clear ct0 e2
          generalize takesS r.pts (nth l r.frm.toNat) false = q0 at *
          generalize takesS r.pts (nth l r.frm.toNat) true = q1 at *
          have cw1 := rWithin_c (nth l r.to.toNat) 0 (nth l r.frm.toNat + q1)
          cases hw : winB (nth l r.to.toNat) 0 (nth l r.frm.toNat + q1) with
          | true =>
            rw [hw] at e cw1
            have e3 : badR (fTime true) l r = false := e
            rw [e3, Bool.false_or] at hj
            have kj := keep hj
            clear hj e e3
            repeat' (first | (with_reducible first | refine awp_seq ?_ | refine awp_blockS ?_ | refine awp_blockC ?_ | refine awp_blockR ?_ | refine awp_skip ?_ | refine awp_ret ?_ | refine awp_exit ?_ | refine awp_region ?_ | refine awp_regionD (id := 1) 9 mixed (by decide +kernel) ?_ | refine awp_regionD (id := 8) 15 mixed (by decide +kernel) ?_ | refine awp_regionD (id := 10) 15 mixed (by decide +kernel) ?_ | refine awp_condM ?_ | refine And.intro ?_ ?_ | refine gM_splitN ?_ ?_ | refine gM_split ?_ ?_ | refine condM_splitDN ?_ ?_ | refine condM_splitD ?_ ?_ | refine condM_splitN ?_ ?_ | refine condM_split ?_ ?_ | refine condM_any ?_ ?_ | refine cw (ct) ?_ | refine cw (cw1) ?_ | intro _) | (simp [*, hlt, hr, cRoad, t1, t2, hn1]))
            all_goals first
              | exact inI64 (by omega) (by omega)
              | omega
              | (refine loopK_normal _ _ _ _ _ (k + 1) _ ?_ (by first | omega | (dsimp only; omega) | (simp; omega)) ?_; (· exact ⟨by omega, kj⟩); (refine le_of ?_ ?_ <;> first | trivial | (simp [*]; done)))
              | skip
          | false =>
            rw [hw] at e cw1
            have e3 : badR (fTime true) l r = true := e
            rw [e3, Bool.true_or] at hj
            have kR2 : R = false := by
              rw [keep_def] at kR
              rw [kR, ← hj]; rfl
            clear hj e e3 kR
            subst kR2
            repeat' (first | (with_reducible first | refine awp_seq ?_ | refine awp_blockS ?_ | refine awp_blockC ?_ | refine awp_blockR ?_ | refine awp_skip ?_ | refine awp_ret ?_ | refine awp_exit ?_ | refine awp_region ?_ | refine awp_regionD (id := 1) 9 mixed (by decide +kernel) ?_ | refine awp_regionD (id := 8) 15 mixed (by decide +kernel) ?_ | refine awp_regionD (id := 10) 15 mixed (by decide +kernel) ?_ | refine awp_condM ?_ | refine And.intro ?_ ?_ | refine gM_splitN ?_ ?_ | refine gM_split ?_ ?_ | refine condM_splitDN ?_ ?_ | refine condM_splitD ?_ ?_ | refine condM_splitN ?_ ?_ | refine condM_split ?_ ?_ | refine condM_any ?_ ?_ | refine cw (ct) ?_ | refine cw (cw1) ?_ | intro _) | (simp [*, hlt, hr, cRoad, t1, t2, hn1]))
            all_goals first
              | exact inI64 (by omega) (by omega)
              | omega
              | skip
      · have hke : k = n.roads.length := by omega
        subst hke
        rw [anyD_end] at hj
        have kj := keep hj.symm
        clear hj
        repeat' (first | (with_reducible first | refine awp_seq ?_ | refine awp_blockS ?_ | refine awp_blockC ?_ | refine awp_blockR ?_ | refine awp_skip ?_ | refine awp_ret ?_ | refine awp_exit ?_ | refine awp_region ?_ | refine awp_regionD (id := 1) 9 mixed (by decide +kernel) ?_ | refine awp_regionD (id := 8) 15 mixed (by decide +kernel) ?_ | refine awp_regionD (id := 10) 15 mixed (by decide +kernel) ?_ | refine awp_condM ?_ | refine And.intro ?_ ?_ | refine gM_splitN ?_ ?_ | refine gM_split ?_ ?_ | refine condM_splitDN ?_ ?_ | refine condM_splitD ?_ ?_ | refine condM_splitN ?_ ?_ | refine condM_split ?_ ?_ | refine condM_any ?_ ?_ | intro _) | (simp [*]))
        (refine finW_intro () ?_ ?_; (· exact kj); (refine le_of ?_ ?_ <;> first | trivial | (simp [*]; done)))
    · have kR2 : R = true := by
        rw [keep_def] at kR
        rw [kR, hf]; rfl
      clear hf kR
      subst kR2
      repeat' (first | (with_reducible first | refine awp_seq ?_ | refine awp_blockS ?_ | refine awp_blockC ?_ | refine awp_blockR ?_ | refine awp_skip ?_ | refine awp_ret ?_ | refine awp_exit ?_ | refine awp_region ?_ | refine awp_regionD (id := 1) 9 mixed (by decide +kernel) ?_ | refine awp_regionD (id := 8) 15 mixed (by decide +kernel) ?_ | refine awp_regionD (id := 10) 15 mixed (by decide +kernel) ?_ | refine awp_condM ?_ | refine And.intro ?_ ?_ | refine gM_splitN ?_ ?_ | refine gM_split ?_ ?_ | refine condM_splitDN ?_ ?_ | refine condM_splitD ?_ ?_ | refine condM_splitN ?_ ?_ | refine condM_split ?_ ?_ | refine condM_any ?_ ?_ | intro _) | (simp [*]))
set_option maxHeartbeats 4000000 in
set_option maxRecDepth 20000 in
theorem rCheck_bad (n : Net) (hnp : n.places.length < 1000) (t : Trip) (s u : List Int) (h1 : s.length < 1000) (h2 : u.length < 1000) (he : lblE n [s, u] ≠ 0) : RealCall Try.prog 63 [aNet n, .agg (tL t), aLab s u] (markP (0, 0, lblE n [s, u])) true := by
  have c1 := rLabelsErr_c n hnp s u h1 h2
  generalize lblE n [s, u] = e at *
  unfold aNet cNet markP at *
  refine realcall_intro Try.func63 (by kernel_rfl) rfl (Nat.le_of_ble_eq_true (by kernel_rfl)) ?_
  simp only [Try.results63, Try.ntmps63]
  repeat' (first | (with_reducible first | refine awp_seq ?_ | refine awp_blockS ?_ | refine awp_blockC ?_ | refine awp_blockR ?_ | refine awp_skip ?_ | refine awp_ret ?_ | refine awp_exit ?_ | refine awp_region ?_ | refine awp_regionD (id := 8) 13 mixed (by decide +kernel) ?_ | refine awp_condM ?_ | refine And.intro ?_ ?_ | refine gM_splitN ?_ ?_ | refine gM_split ?_ ?_ | refine condM_splitDN ?_ ?_ | refine condM_splitD ?_ ?_ | refine condM_splitN ?_ ?_ | refine condM_split ?_ ?_ | refine condM_any ?_ ?_ | refine cw (c1) ?_ | intro _) | (simp [*, he]))
set_option maxHeartbeats 4000000 in
set_option maxRecDepth 20000 in
theorem rCheck_ok (n : Net) (h : NetOk n) (t : Trip) (a b : Nat) (fa : t.frm = a) (fb : t.to = b) (la : a < n.places.length) (lb : b < n.places.length) (s u : List Int) (he : lblE n [s, u] = 0) : RealCall Try.prog 63 [aNet n, .agg (tL t), aLab s u] (markP (provS n a b t.at_ s u)) true := by
  have hnp := h.np
  obtain ⟨e1, e2⟩ := lbl_inv he
  have hv := lbl_vals he
  have v1 := badA_no (hv s (.inl rfl))
  have v2 := badA_no (hv u (.inr rfl))
  have c1 := rLabelsErr_c n (by omega) s u (by omega) (by omega)
  rw [he] at c1
  have c2 := rProves_false n h t a fa la s e1 v1
  have c3 := rProves_true n h t a fa la u e2 v2
  have las : b < s.length := by omega
  have lau : b < u.length := by omega
  have w1 := v1 b las
  have w2 := v2 b lau
  obtain ⟨t1, t2, t3⟩ := t
  dsimp only at *
  subst fa
  subst fb
  unfold provS
  clear h hv v1 v2 he e1 e2
  generalize okL false n a t3 s = o1 at *
  generalize okL true n a t3 u = o2 at *
  unfold aNet cNet markP at *
  cases o1 with
  | false =>
    rw [if_pos (by rfl)]
    refine realcall_intro Try.func63 (by kernel_rfl) rfl (Nat.le_of_ble_eq_true (by kernel_rfl)) ?_
    simp only [Try.results63, Try.ntmps63]
    repeat' (first | (with_reducible first | refine awp_seq ?_ | refine awp_blockS ?_ | refine awp_blockC ?_ | refine awp_blockR ?_ | refine awp_skip ?_ | refine awp_ret ?_ | refine awp_exit ?_ | refine awp_region ?_ | refine awp_regionD (id := 8) 13 mixed (by decide +kernel) ?_ | refine awp_condM ?_ | refine And.intro ?_ ?_ | refine gM_splitN ?_ ?_ | refine gM_split ?_ ?_ | refine condM_splitDN ?_ ?_ | refine condM_splitD ?_ ?_ | refine condM_splitN ?_ ?_ | refine condM_split ?_ ?_ | refine condM_any ?_ ?_ | refine cw (c1) ?_ | refine cw (c2) ?_ | refine cw (c3) ?_ | intro _) | (simp [*]))
  | true =>
    cases o2 with
    | false =>
      rw [if_pos (by rfl)]
      refine realcall_intro Try.func63 (by kernel_rfl) rfl (Nat.le_of_ble_eq_true (by kernel_rfl)) ?_
      simp only [Try.results63, Try.ntmps63]
      repeat' (first | (with_reducible first | refine awp_seq ?_ | refine awp_blockS ?_ | refine awp_blockC ?_ | refine awp_blockR ?_ | refine awp_skip ?_ | refine awp_ret ?_ | refine awp_exit ?_ | refine awp_region ?_ | refine awp_regionD (id := 8) 13 mixed (by decide +kernel) ?_ | refine awp_condM ?_ | refine And.intro ?_ ?_ | refine gM_splitN ?_ ?_ | refine gM_split ?_ ?_ | refine condM_splitDN ?_ ?_ | refine condM_splitD ?_ ?_ | refine condM_splitN ?_ ?_ | refine condM_split ?_ ?_ | refine condM_any ?_ ?_ | refine cw (c1) ?_ | refine cw (c2) ?_ | refine cw (c3) ?_ | intro _) | (simp [*]))
    | true =>
      rw [if_neg (by decide)]
      by_cases g1 : nth s b = -1
      · rw [if_pos (.inl g1)]
        refine realcall_intro Try.func63 (by kernel_rfl) rfl (Nat.le_of_ble_eq_true (by kernel_rfl)) ?_
        simp only [Try.results63, Try.ntmps63]
        repeat' (first | (with_reducible first | refine awp_seq ?_ | refine awp_blockS ?_ | refine awp_blockC ?_ | refine awp_blockR ?_ | refine awp_skip ?_ | refine awp_ret ?_ | refine awp_exit ?_ | refine awp_region ?_ | refine awp_regionD (id := 8) 13 mixed (by decide +kernel) ?_ | refine awp_condM ?_ | refine And.intro ?_ ?_ | refine gM_splitN ?_ ?_ | refine gM_split ?_ ?_ | refine condM_splitDN ?_ ?_ | refine condM_splitD ?_ ?_ | refine condM_splitN ?_ ?_ | refine condM_split ?_ ?_ | refine condM_any ?_ ?_ | refine cw (c1) ?_ | refine cw (c2) ?_ | refine cw (c3) ?_ | intro _) | (simp [*, las, lau, g1]))
        all_goals try omega
      · have g1' : ¬ nth s b < 0 := by omega
        by_cases g2 : nth u b = -1
        · rw [if_pos (.inr g2)]
          refine realcall_intro Try.func63 (by kernel_rfl) rfl (Nat.le_of_ble_eq_true (by kernel_rfl)) ?_
          simp only [Try.results63, Try.ntmps63]
          repeat' (first | (with_reducible first | refine awp_seq ?_ | refine awp_blockS ?_ | refine awp_blockC ?_ | refine awp_blockR ?_ | refine awp_skip ?_ | refine awp_ret ?_ | refine awp_exit ?_ | refine awp_region ?_ | refine awp_regionD (id := 8) 13 mixed (by decide +kernel) ?_ | refine awp_condM ?_ | refine And.intro ?_ ?_ | refine gM_splitN ?_ ?_ | refine gM_split ?_ ?_ | refine condM_splitDN ?_ ?_ | refine condM_splitD ?_ ?_ | refine condM_splitN ?_ ?_ | refine condM_split ?_ ?_ | refine condM_any ?_ ?_ | refine cw (c1) ?_ | refine cw (c2) ?_ | refine cw (c3) ?_ | intro _) | (simp [*, las, lau, g1', g2]))
          all_goals try omega
        · have g2' : ¬ nth u b < 0 := by omega
          rw [if_neg (by simp [g1, g2])]
          refine realcall_intro Try.func63 (by kernel_rfl) rfl (Nat.le_of_ble_eq_true (by kernel_rfl)) ?_
          simp only [Try.results63, Try.ntmps63]
          repeat' (first | (with_reducible first | refine awp_seq ?_ | refine awp_blockS ?_ | refine awp_blockC ?_ | refine awp_blockR ?_ | refine awp_skip ?_ | refine awp_ret ?_ | refine awp_exit ?_ | refine awp_region ?_ | refine awp_regionD (id := 8) 13 mixed (by decide +kernel) ?_ | refine awp_condM ?_ | refine And.intro ?_ ?_ | refine gM_splitN ?_ ?_ | refine gM_split ?_ ?_ | refine condM_splitDN ?_ ?_ | refine condM_splitD ?_ ?_ | refine condM_splitN ?_ ?_ | refine condM_split ?_ ?_ | refine condM_any ?_ ?_ | refine cw (c1) ?_ | refine cw (c2) ?_ | refine cw (c3) ?_ | intro _) | (simp [*, las, lau, g1', g2']))
          all_goals try omega
end Go.Proofs.Ytmedbghkldmlhaa
