/- Contracts of functions for this claim: lemmas alone. -/
import Derived.Test.YtmedbghkldmlhaaP44
import Derived.Test.YtmedbghkldmlhaaLk
set_option linter.unusedSimpArgs false
set_option linter.unusedVariables false
namespace Go.Proofs.Ytmedbghkldmlhaa
open Go Go.Fi

abbrev aLab (s u : List Int) : PV := .agg [.sl s.length (ints s), .sl u.length (ints u)]
/-- what times prove -/
def okL (late : Bool) (n : Net) (a : Nat) (at_ : Int) (l : List Int) : Bool := !(decide (nth l a = -1) || decide (at_ < nth l a) || anyD (badR (fTime late) l) n.roads 0)
def clE (n : Net) (t : Trip) (s u : List Int) : Int := firstS [(netS n).2.2, tE n t, lblE n [s, u]]
def provS (n : Net) (a b : Nat) (at_ : Int) (s u : List Int) : Tri :=
  if (okL false n a at_ s && okL true n a at_ u) = false then (0, 0, 20) else if nth s b = -1 ∨ nth u b = -1 then (0, 0, 12) else (nth s b, nth u b, 0)
theorem along_c (r : Road) (m : Int) (late : Bool) (hl : PtsOk r.pts) (h0 : 0 ≤ m) (h1 : m ≤ 1000000000000000) (hb : 0 ≤ takesS r.pts m late ∧ takesS r.pts m late ≤ 14400) :
    RealCall Try.prog 115 [.agg (cRoad r), .int .i64 m, .ip [.fn 84 [], .fn 85 []] 0, .ip [.int .i64 (if late then 1 else 0)] 0] (.int .i64 (fTime late r m)) true := by
  have ct : RealCall Try.prog 83 [.agg (cRoad r), .int .i64 m, .fn (endF late) []] (.int .i64 (takesS r.pts m late)) true := takesR_c r m late hl h0 (by omega)
  unfold fTime
  generalize takesS r.pts m late = v at *
  unfold cRoad at *
  cases late with
  | false =>
    have ct : RealCall Try.prog 83 [.agg [.str r.name, .int .i64 r.frm, .int .i64 r.to, .int .i64 r.metres, .sl r.pts.length (cPts r.pts)], .int .i64 m, .fn 84 []] (.int .i64 v) true := ct
    refine realcall_intro Try.func115 (by kernel_rfl) rfl (Nat.le_of_ble_eq_true (by kernel_rfl)) ?_
    simp only [Try.results115, Try.ntmps115]
    repeat' (first | (with_reducible first | refine awp_seq ?_ | refine awp_blockS ?_ | refine awp_blockC ?_ | refine awp_blockR ?_ | refine awp_skip ?_ | refine awp_ret ?_ | refine awp_exit ?_ | refine awp_region ?_ | refine awp_regionD (id := 1) 9 mixed (by decide +kernel) ?_ | refine awp_condM ?_ | refine And.intro ?_ ?_ | refine gM_splitN ?_ ?_ | refine gM_split ?_ ?_ | refine condM_splitDN ?_ ?_ | refine condM_splitD ?_ ?_ | refine condM_splitN ?_ ?_ | refine condM_split ?_ ?_ | refine condM_any ?_ ?_ | refine cw (ct) ?_ | intro _) | (simp [*]))
    all_goals first | exact inI64 (by omega) (by omega) | omega | skip
  | true =>
    have ct : RealCall Try.prog 83 [.agg [.str r.name, .int .i64 r.frm, .int .i64 r.to, .int .i64 r.metres, .sl r.pts.length (cPts r.pts)], .int .i64 m, .fn 85 []] (.int .i64 v) true := ct
    refine realcall_intro Try.func115 (by kernel_rfl) rfl (Nat.le_of_ble_eq_true (by kernel_rfl)) ?_
    simp only [Try.results115, Try.ntmps115]
    repeat' (first | (with_reducible first | refine awp_seq ?_ | refine awp_blockS ?_ | refine awp_blockC ?_ | refine awp_blockR ?_ | refine awp_skip ?_ | refine awp_ret ?_ | refine awp_exit ?_ | refine awp_region ?_ | refine awp_regionD (id := 1) 9 mixed (by decide +kernel) ?_ | refine awp_condM ?_ | refine And.intro ?_ ?_ | refine gM_splitN ?_ ?_ | refine gM_split ?_ ?_ | refine condM_splitDN ?_ ?_ | refine condM_splitD ?_ ?_ | refine condM_splitN ?_ ?_ | refine condM_split ?_ ?_ | refine condM_any ?_ ?_ | refine cw (ct) ?_ | intro _) | (simp [*]))
    all_goals first | exact inI64 (by omega) (by omega) | omega | skip
theorem two_hyp {s u : List Int} {B : Nat} (h : s.length < B) (h2 : u.length < B) : ∀ k, k < [s, u].length → (nth [s, u] k).length < B := fun k hk => by
  match k, hk with
  | 0, _ => exact h
  | 1, _ => exact h2
set_option maxHeartbeats 4000000 in
set_option maxRecDepth 20000 in
theorem labels_bad (n : Net) (h : NetIn n) (t : Trip) (s u : List Int) (h1 : s.length < 1000) (h2 : u.length < 1000) (he : clE n t s u ≠ 0) : RealCall Try.prog 61 [aNet n, .agg (tL t), aLab s u] (markP (0, 0, clE n t s u)) true := by
  have co := open_c n h
  have ct : RealCall Try.prog 114 [aNet n, .agg (tL t)] (.int .i64 (tE n t)) true := tripErr_c n t h.np
  have cl : RealCall Try.prog 105 [aNet n, .sl 2 [.sl s.length (ints s), .sl u.length (ints u)]] (.int .i64 (lblE n [s, u])) true := labelsErr_c n h.np [s, u] (Nat.le_of_ble_eq_true rfl) (two_hyp h1 h2)
  have cf := first3_c (netS n).2.2 (tE n t) (lblE n [s, u])
  unfold clE at *
  generalize (netS n).2.2 = ne at *
  generalize tE n t = te at *
  generalize lblE n [s, u] = le at *
  generalize firstS [ne, te, le] = fe at *
  clear h
  unfold aNet cNet markP at *
  refine realcall_intro Try.func61 (by kernel_rfl) rfl (Nat.le_of_ble_eq_true (by kernel_rfl)) ?_
  simp only [Try.results61, Try.ntmps61]
  repeat' (first | (with_reducible first | refine awp_seq ?_ | refine awp_blockS ?_ | refine awp_blockC ?_ | refine awp_blockR ?_ | refine awp_skip ?_ | refine awp_ret ?_ | refine awp_exit ?_ | refine awp_region ?_ | refine awp_regionD (id := 2) 13 mixed (by decide +kernel) ?_ | refine awp_regionD (id := 10) 23 mixed (by decide +kernel) ?_ | refine awp_regionD (id := 13) 14 mixed (by decide +kernel) ?_ | refine awp_condM ?_ | refine And.intro ?_ ?_ | refine gM_splitN ?_ ?_ | refine gM_split ?_ ?_ | refine condM_splitDN ?_ ?_ | refine condM_splitD ?_ ?_ | refine condM_splitN ?_ ?_ | refine condM_split ?_ ?_ | refine condM_any ?_ ?_ | refine cw (co) ?_ | refine cw (ct) ?_ | refine cw (cl) ?_ | refine cw (cf) ?_ | intro _) | (simp [*, he]))
  all_goals try omega
theorem lbl_vals {n : Net} {s u : List Int} (h : lblE n [s, u] = 0) : ∀ l, l = s ∨ l = u → badA l = false := fun l hl => by
  unfold lblE at h
  split at h
  · cases h
  · split at h
    · cases h
    · rename_i h2
      have h2 : anyD badA [s, u] 0 = false := by cases hx : anyD badA [s, u] 0 with | true => exact absurd hx h2 | false => rfl
      rcases hl with e | e
      · subst e; exact anyD_no h2 0 (by simp)
      · subst e; exact anyD_no h2 1 (by simp)
theorem prov_c (n : Net) (hnr : n.roads.length < 1000) (ho : NetOk n) (late : Bool) (l : List Int) (hlen : l.length = n.places.length) (hv : ∀ k, k < l.length → -1 ≤ nth l k ∧ nth l k ≤ 1000000000000000) :
    RealCall Try.prog 107 [aNet n, .sl l.length (ints l), .fn 115 [.ip [.fn 84 [], .fn 85 []] 0, .ip [.int .i64 (if late then 1 else 0)] 0]] (.bool (!anyD (badR (fTime late) l) n.roads 0)) true := by
  have hnp := ho.np
  exact proves_c (fTime late) n hnr l (by omega) (fun k hk => by have := (ho.road k hk).frm; have := (ho.road k hk).to; rw [hlen]; omega) 115 _ (fun k hk hne => by
    have hr := ho.road k hk
    have := hr.frm
    have := hv (nth n.roads k).frm.toNat (by omega)
    exact along_c _ _ late hr.pts (by omega) (by omega) (fTime_bd ho hk _ late))
set_option maxHeartbeats 4000000 in
set_option maxRecDepth 20000 in
theorem labels_ok (n : Net) (h : NetIn n) (t : Trip) (a b : Nat) (ok : TripOk n t a b) (s u : List Int) (h1 : s.length = n.places.length) (h2 : u.length = n.places.length) (he : clE n t s u = 0) : RealCall Try.prog 61 [aNet n, .agg (tL t), aLab s u] (markP (provS n a b t.at_ s u)) true := by
  have hnp := h.np
  have co := open_c n h
  have ct : RealCall Try.prog 114 [aNet n, .agg (tL t)] (.int .i64 (tE n t)) true := tripErr_c n t h.np
  have cl : RealCall Try.prog 105 [aNet n, .sl 2 [.sl s.length (ints s), .sl u.length (ints u)]] (.int .i64 (lblE n [s, u])) true := labelsErr_c n h.np [s, u] (Nat.le_of_ble_eq_true rfl) (two_hyp (by omega) (by omega))
  have cf := first3_c (netS n).2.2 (tE n t) (lblE n [s, u])
  have hlb : lblE n [s, u] = 0 := firstS_nth he 2 (show (2 : Nat) < 3 by omega)
  have hv : ∀ l, l = s ∨ l = u → badA l = false := lbl_vals hlb
  have hq := fun (late : Bool) (l : List Int) (hl : l = s ∨ l = u) (ho : NetOk n) (hlen : l.length = n.places.length) => prov_c n h.nr ho late l hlen (badA_no (hv l hl))
  have hq0 : NetOk n → s.length = n.places.length → u.length = n.places.length → RealCall Try.prog 107 [.agg [.sl n.places.length (strs n.places), .sl n.roads.length (cRoads n.roads)], .sl s.length (ints s), .fn 115 [.ip [.fn 84 [], .fn 85 []] 0, .ip [.int .i64 0] 0]] (.bool (!anyD (badR (fTime false) s) n.roads 0)) true := fun ho q1 q2 => hq false s (.inl rfl) ho q1
  have hq1 : NetOk n → s.length = n.places.length → u.length = n.places.length → RealCall Try.prog 107 [.agg [.sl n.places.length (strs n.places), .sl n.roads.length (cRoads n.roads)], .sl u.length (ints u), .fn 115 [.ip [.fn 84 [], .fn 85 []] 0, .ip [.int .i64 1] 0]] (.bool (!anyD (badR (fTime true) u) n.roads 0)) true := fun ho q1 q2 => hq true u (.inr rfl) ho q2
  clear hq hv hlb
  unfold clE at he
  rw [he] at cf
  generalize (netS n).2.2 = ne at *
  generalize tE n t = te at *
  generalize lblE n [s, u] = le at *
  have kh := keep (And.intro h1 (And.intro h2 ok))
  clear he h1 h2 ok
  unfold aNet cNet markP at *
  refine realcall_intro Try.func61 (by kernel_rfl) rfl (Nat.le_of_ble_eq_true (by kernel_rfl)) ?_
  simp only [Try.results61, Try.ntmps61]
  repeat' (first | (with_reducible first | refine awp_seq ?_ | refine awp_blockS ?_ | refine awp_blockC ?_ | refine awp_blockR ?_ | refine awp_skip ?_ | refine awp_ret ?_ | refine awp_exit ?_ | refine awp_region ?_ | refine awp_regionD (id := 2) 13 mixed (by decide +kernel) ?_ | refine awp_regionD (id := 10) 23 mixed (by decide +kernel) ?_ | refine awp_regionD (id := 13) 14 mixed (by decide +kernel) ?_ | refine awp_condM ?_ | refine And.intro ?_ ?_ | refine gM_splitN ?_ ?_ | refine gM_split ?_ ?_ | refine condM_splitDN ?_ ?_ | refine condM_splitD ?_ ?_ | refine condM_splitN ?_ ?_ | refine condM_split ?_ ?_ | refine condM_any ?_ ?_ | refine cw (co) ?_ | refine cw (ct) ?_ | refine cw (cl) ?_ | refine cw (cf) ?_ | intro _) | (simp [*]))
  all_goals try omega
  clear co ct cl cf
  obtain ⟨h1, h2, ok⟩ := kh
  have fa := ok.fa
  have fb := ok.fb
  have la : a < n.places.length := ok.la
  have lb : b < n.places.length := ok.lb
  obtain ⟨t1, t2, t3⟩ := t
  dsimp only at fa fb
  subst fa
  subst fb
  have las : a < s.length := by omega
  have lau : a < u.length := by omega
  have lbs : b < s.length := by omega
  have lbu : b < u.length := by omega
  have kp0 := hq0 ok.ok h1 h2
  have kp1 := hq1 ok.ok h1 h2
  generalize hR : provS n a b t3 s u = R
  have kRb : (okL false n a t3 s && okL true n a t3 u) = false → R = (0, 0, 20) := fun h => by rw [← hR]; exact if_pos h
  have kRg : (okL false n a t3 s && okL true n a t3 u) = true → R = if nth s b = -1 ∨ nth u b = -1 then (0, 0, 12) else (nth s b, nth u b, 0) := fun h => by rw [← hR]; unfold provS; rw [h, if_neg (by decide)]
  have kk := keep (And.intro kRb (And.intro kRg (And.intro kp0 kp1)))
  clear kRb kRg kp0 kp1 hR h1 h2 ok hq0 hq1
  refine awp_for3 (fun (k : Nat) => k ≤ 2 ∧ (0 < k → okL false n a t3 s = true) ∧ (1 < k → okL true n a t3 u = true)) [4, 5, 6, 8, 10, 42] (fun (k : Nat) => [(43, .w false false (.int .i64 k))]) [1, 2, 3, 4, 7] (fun (k : Nat) => []) (fun (k : Nat) => 2 - k) (fun (_u : Unit) => okL false n a t3 s = true ∧ okL true n a t3 u = true) [4, 5, 6] (fun (_u : Unit) => []) [1, 2, 3] (fun (_u : Unit) => []) (0) ⟨Nat.zero_le _, fun h => absurd h (Nat.not_lt_zero _), fun h => absurd h (by omega)⟩ (by simp) (by simp) (fun k hk => ?_) (fun _u hf => ?_)
  · obtain ⟨hk, kj⟩ := hk
    have kq := keep kj
    clear kj
    obtain ⟨kRb, _, kp0, kp1⟩ := kk
    have hvs : True := trivial
    have hvu : True := trivial
    match k, hk with
    | 0, _ =>
      -- the first labels
      have hA := hvs
      have cp : RealCall Try.prog 107 [.agg [.sl n.places.length (strs n.places), .sl n.roads.length (cRoads n.roads)], .sl s.length (ints s), .fn 115 [.ip [.fn 84 [], .fn 85 []] 0, .ip [.int .i64 0] 0]] (.bool (!anyD (badR (fTime false) s) n.roads 0)) true := kp0
      refine awp_seq ?_
      refine awp_region ?_
      simp [*]
      refine awp_seq ?_
      refine awp_condM ?_
      simp [*]
      refine awp_skip ?_
      simp [*]
      refine awp_seq ?_
      refine awp_blockS ?_
      refine awp_seq ?_
      refine awp_idx (j := 0) (cs := [.w false false (.sl s.length (ints s)), .w false false (.sl u.length (ints u))]) (k := 2) (e := 60) (d1 := 45) (d2 := 46) (x := 42) (i := 43) (t := 43) (ow := false) (fl := false) rfl Try.underlying166 (by simp) (by simp) (by simp) (by simp) (by decide) (by decide) (by decide) (by simp) (by decide) (by decide) ?_
      simp [*]
      by_cases g1 : nth s a = -1
      · have e : okL false n a t3 s = false := by unfold okL; rw [decide_eq_true g1]; rfl
        have kR := kRb (by rw [e]; rfl)
        subst kR
        clear e
        repeat' (first | (with_reducible first | refine awp_seq ?_ | refine awp_blockS ?_ | refine awp_blockC ?_ | refine awp_blockR ?_ | refine awp_skip ?_ | refine awp_ret ?_ | refine awp_exit ?_ | refine awp_region ?_ | refine awp_regionD (id := 2) 13 mixed (by decide +kernel) ?_ | refine awp_regionD (id := 10) 23 mixed (by decide +kernel) ?_ | refine awp_regionD (id := 13) 14 mixed (by decide +kernel) ?_ | refine awp_condM ?_ | refine And.intro ?_ ?_ | refine gM_splitN ?_ ?_ | refine gM_split ?_ ?_ | refine condM_splitDN ?_ ?_ | refine condM_splitD ?_ ?_ | refine condM_splitN ?_ ?_ | refine condM_split ?_ ?_ | refine condM_any ?_ ?_ | intro _) | (simp [*, las, g1]))
        all_goals try omega
      · by_cases g2 : t3 < nth s a
        · have e : okL false n a t3 s = false := by unfold okL; rw [decide_eq_true g2, decide_eq_false g1]; rfl
          have kR := kRb (by rw [e]; rfl)
          subst kR
          clear e
          repeat' (first | (with_reducible first | refine awp_seq ?_ | refine awp_blockS ?_ | refine awp_blockC ?_ | refine awp_blockR ?_ | refine awp_skip ?_ | refine awp_ret ?_ | refine awp_exit ?_ | refine awp_region ?_ | refine awp_regionD (id := 2) 13 mixed (by decide +kernel) ?_ | refine awp_regionD (id := 10) 23 mixed (by decide +kernel) ?_ | refine awp_regionD (id := 13) 14 mixed (by decide +kernel) ?_ | refine awp_condM ?_ | refine And.intro ?_ ?_ | refine gM_splitN ?_ ?_ | refine gM_split ?_ ?_ | refine condM_splitDN ?_ ?_ | refine condM_splitD ?_ ?_ | refine condM_splitN ?_ ?_ | refine condM_split ?_ ?_ | refine condM_any ?_ ?_ | intro _) | (simp [*, las, g1, g2]))
          all_goals try omega
        · have e : okL false n a t3 s = !anyD (badR (fTime false) s) n.roads 0 := by unfold okL; rw [decide_eq_false g1, decide_eq_false g2]; rfl
          cases hb : anyD (badR (fTime false) s) n.roads 0 with
          | true =>
            rw [hb] at cp e
            have e2 : okL false n a t3 s = false := e
            have kR := kRb (by rw [e2]; rfl)
            clear e2
            subst kR
            clear e
            repeat' (first | (with_reducible first | refine awp_seq ?_ | refine awp_blockS ?_ | refine awp_blockC ?_ | refine awp_blockR ?_ | refine awp_skip ?_ | refine awp_ret ?_ | refine awp_exit ?_ | refine awp_region ?_ | refine awp_regionD (id := 2) 13 mixed (by decide +kernel) ?_ | refine awp_regionD (id := 10) 23 mixed (by decide +kernel) ?_ | refine awp_regionD (id := 13) 14 mixed (by decide +kernel) ?_ | refine awp_condM ?_ | refine And.intro ?_ ?_ | refine gM_splitN ?_ ?_ | refine gM_split ?_ ?_ | refine condM_splitDN ?_ ?_ | refine condM_splitD ?_ ?_ | refine condM_splitN ?_ ?_ | refine condM_split ?_ ?_ | refine condM_any ?_ ?_ | refine cw (cp) ?_ | intro _) | (simp [*, las, g1, g2]))
            all_goals try omega
          | false =>
            rw [hb] at cp e
            have ke := keep (show okL false n a t3 s = true from e)
            clear e
            repeat' (first | (with_reducible first | refine awp_seq ?_ | refine awp_blockS ?_ | refine awp_blockC ?_ | refine awp_blockR ?_ | refine awp_skip ?_ | refine awp_ret ?_ | refine awp_exit ?_ | refine awp_region ?_ | refine awp_regionD (id := 2) 13 mixed (by decide +kernel) ?_ | refine awp_regionD (id := 10) 23 mixed (by decide +kernel) ?_ | refine awp_regionD (id := 13) 14 mixed (by decide +kernel) ?_ | refine awp_condM ?_ | refine And.intro ?_ ?_ | refine gM_splitN ?_ ?_ | refine gM_split ?_ ?_ | refine condM_splitDN ?_ ?_ | refine condM_splitD ?_ ?_ | refine condM_splitN ?_ ?_ | refine condM_split ?_ ?_ | refine condM_any ?_ ?_ | refine cw (cp) ?_ | intro _) | (simp [*, las, g1, g2]))
            all_goals first
              | exact inI64 (by omega) (by omega)
              | omega
              | (refine loopK_normal _ _ _ _ _ (1 : Nat) _ ?_ (by first | omega | (dsimp only; omega) | (simp; omega)) ?_; (· exact ⟨by omega, fun _ => ke, fun h => absurd h (by omega)⟩); (refine le_of ?_ ?_ <;> first | trivial | (simp [*]; done)))
              | skip
    | 1, _ =>
      -- the second labels
      have hA := hvu
      have cp : RealCall Try.prog 107 [.agg [.sl n.places.length (strs n.places), .sl n.roads.length (cRoads n.roads)], .sl u.length (ints u), .fn 115 [.ip [.fn 84 [], .fn 85 []] 0, .ip [.int .i64 1] 0]] (.bool (!anyD (badR (fTime true) u) n.roads 0)) true := kp1
      refine awp_seq ?_
      refine awp_region ?_
      simp [*]
      refine awp_seq ?_
      refine awp_condM ?_
      simp [*]
      refine awp_skip ?_
      simp [*]
      refine awp_seq ?_
      refine awp_blockS ?_
      refine awp_seq ?_
      refine awp_idx (j := 1) (cs := [.w false false (.sl s.length (ints s)), .w false false (.sl u.length (ints u))]) (k := 2) (e := 60) (d1 := 45) (d2 := 46) (x := 42) (i := 43) (t := 43) (ow := false) (fl := false) rfl Try.underlying166 (by simp) (by simp) (by simp) (by simp) (by decide) (by decide) (by decide) (by simp) (by decide) (by decide) ?_
      simp [*]
      by_cases g1 : nth u a = -1
      · have e : okL true n a t3 u = false := by unfold okL; rw [decide_eq_true g1]; rfl
        have kR := kRb (by rw [e, Bool.and_false])
        subst kR
        clear e
        repeat' (first | (with_reducible first | refine awp_seq ?_ | refine awp_blockS ?_ | refine awp_blockC ?_ | refine awp_blockR ?_ | refine awp_skip ?_ | refine awp_ret ?_ | refine awp_exit ?_ | refine awp_region ?_ | refine awp_regionD (id := 2) 13 mixed (by decide +kernel) ?_ | refine awp_regionD (id := 10) 23 mixed (by decide +kernel) ?_ | refine awp_regionD (id := 13) 14 mixed (by decide +kernel) ?_ | refine awp_condM ?_ | refine And.intro ?_ ?_ | refine gM_splitN ?_ ?_ | refine gM_split ?_ ?_ | refine condM_splitDN ?_ ?_ | refine condM_splitD ?_ ?_ | refine condM_splitN ?_ ?_ | refine condM_split ?_ ?_ | refine condM_any ?_ ?_ | intro _) | (simp [*, lau, g1]))
        all_goals try omega
      · by_cases g2 : t3 < nth u a
        · have e : okL true n a t3 u = false := by unfold okL; rw [decide_eq_true g2, decide_eq_false g1]; rfl
          have kR := kRb (by rw [e, Bool.and_false])
          subst kR
          clear e
          repeat' (first | (with_reducible first | refine awp_seq ?_ | refine awp_blockS ?_ | refine awp_blockC ?_ | refine awp_blockR ?_ | refine awp_skip ?_ | refine awp_ret ?_ | refine awp_exit ?_ | refine awp_region ?_ | refine awp_regionD (id := 2) 13 mixed (by decide +kernel) ?_ | refine awp_regionD (id := 10) 23 mixed (by decide +kernel) ?_ | refine awp_regionD (id := 13) 14 mixed (by decide +kernel) ?_ | refine awp_condM ?_ | refine And.intro ?_ ?_ | refine gM_splitN ?_ ?_ | refine gM_split ?_ ?_ | refine condM_splitDN ?_ ?_ | refine condM_splitD ?_ ?_ | refine condM_splitN ?_ ?_ | refine condM_split ?_ ?_ | refine condM_any ?_ ?_ | intro _) | (simp [*, lau, g1, g2]))
          all_goals try omega
        · have e : okL true n a t3 u = !anyD (badR (fTime true) u) n.roads 0 := by unfold okL; rw [decide_eq_false g1, decide_eq_false g2]; rfl
          cases hb : anyD (badR (fTime true) u) n.roads 0 with
          | true =>
            rw [hb] at cp e
            have e : okL true n a t3 u = false := e
            have kR := kRb (by rw [e, Bool.and_false])
            subst kR
            clear e
            repeat' (first | (with_reducible first | refine awp_seq ?_ | refine awp_blockS ?_ | refine awp_blockC ?_ | refine awp_blockR ?_ | refine awp_skip ?_ | refine awp_ret ?_ | refine awp_exit ?_ | refine awp_region ?_ | refine awp_regionD (id := 2) 13 mixed (by decide +kernel) ?_ | refine awp_regionD (id := 10) 23 mixed (by decide +kernel) ?_ | refine awp_regionD (id := 13) 14 mixed (by decide +kernel) ?_ | refine awp_condM ?_ | refine And.intro ?_ ?_ | refine gM_splitN ?_ ?_ | refine gM_split ?_ ?_ | refine condM_splitDN ?_ ?_ | refine condM_splitD ?_ ?_ | refine condM_splitN ?_ ?_ | refine condM_split ?_ ?_ | refine condM_any ?_ ?_ | refine cw (cp) ?_ | intro _) | (simp [*, lau, g1, g2]))
            all_goals try omega
          | false =>
            rw [hb] at cp e
            have ke := keep (show okL true n a t3 u = true from e)
            clear e
            repeat' (first | (with_reducible first | refine awp_seq ?_ | refine awp_blockS ?_ | refine awp_blockC ?_ | refine awp_blockR ?_ | refine awp_skip ?_ | refine awp_ret ?_ | refine awp_exit ?_ | refine awp_region ?_ | refine awp_regionD (id := 2) 13 mixed (by decide +kernel) ?_ | refine awp_regionD (id := 10) 23 mixed (by decide +kernel) ?_ | refine awp_regionD (id := 13) 14 mixed (by decide +kernel) ?_ | refine awp_condM ?_ | refine And.intro ?_ ?_ | refine gM_splitN ?_ ?_ | refine gM_split ?_ ?_ | refine condM_splitDN ?_ ?_ | refine condM_splitD ?_ ?_ | refine condM_splitN ?_ ?_ | refine condM_split ?_ ?_ | refine condM_any ?_ ?_ | refine cw (cp) ?_ | intro _) | (simp [*, lau, g1, g2]))
            all_goals first
              | exact inI64 (by omega) (by omega)
              | omega
              | (refine loopK_normal _ _ _ _ _ (2 : Nat) _ ?_ (by first | omega | (dsimp only; omega) | (simp; omega)) ?_; (· exact ⟨by omega, fun _ => kq.1 (by omega), fun _ => ke⟩); (refine le_of ?_ ?_ <;> first | trivial | (simp [*]; done)))
              | skip
    | 2, _ =>
      clear kp0 kp1 kRb
      have q0 := kq.1 (by omega)
      have q1 := kq.2 (by omega)
      have q := keep (And.intro q0 q1)
      clear q0 q1 kq
      repeat' (first | (with_reducible first | refine awp_seq ?_ | refine awp_blockS ?_ | refine awp_blockC ?_ | refine awp_blockR ?_ | refine awp_skip ?_ | refine awp_ret ?_ | refine awp_exit ?_ | refine awp_region ?_ | refine awp_regionD (id := 2) 13 mixed (by decide +kernel) ?_ | refine awp_regionD (id := 10) 23 mixed (by decide +kernel) ?_ | refine awp_regionD (id := 13) 14 mixed (by decide +kernel) ?_ | refine awp_condM ?_ | refine And.intro ?_ ?_ | refine gM_splitN ?_ ?_ | refine gM_split ?_ ?_ | refine condM_splitDN ?_ ?_ | refine condM_splitD ?_ ?_ | refine condM_splitN ?_ ?_ | refine condM_split ?_ ?_ | refine condM_any ?_ ?_ | intro _) | (simp [*]))
      all_goals (refine finW_intro () ?_ ?_; (· exact q); (refine le_of ?_ ?_ <;> first | trivial | (simp [*]; done)))
  · have e := kk.2.1 (by rw [hf.1, hf.2]; rfl)
    clear kk hf
    by_cases g1 : nth s b = -1
    · rw [if_pos (.inl g1)] at e
      subst e
      repeat' (first | (with_reducible first | refine awp_seq ?_ | refine awp_blockS ?_ | refine awp_blockC ?_ | refine awp_blockR ?_ | refine awp_skip ?_ | refine awp_ret ?_ | refine awp_exit ?_ | refine awp_region ?_ | refine awp_regionD (id := 2) 13 mixed (by decide +kernel) ?_ | refine awp_regionD (id := 10) 23 mixed (by decide +kernel) ?_ | refine awp_regionD (id := 13) 14 mixed (by decide +kernel) ?_ | refine awp_condM ?_ | refine And.intro ?_ ?_ | refine gM_splitN ?_ ?_ | refine gM_split ?_ ?_ | refine condM_splitDN ?_ ?_ | refine condM_splitD ?_ ?_ | refine condM_splitN ?_ ?_ | refine condM_split ?_ ?_ | refine condM_any ?_ ?_ | intro _) | (simp [*, lbs, lbu, g1]))
      all_goals try omega
    · by_cases g2 : nth u b = -1
      · rw [if_pos (.inr g2)] at e
        subst e
        repeat' (first | (with_reducible first | refine awp_seq ?_ | refine awp_blockS ?_ | refine awp_blockC ?_ | refine awp_blockR ?_ | refine awp_skip ?_ | refine awp_ret ?_ | refine awp_exit ?_ | refine awp_region ?_ | refine awp_regionD (id := 2) 13 mixed (by decide +kernel) ?_ | refine awp_regionD (id := 10) 23 mixed (by decide +kernel) ?_ | refine awp_regionD (id := 13) 14 mixed (by decide +kernel) ?_ | refine awp_condM ?_ | refine And.intro ?_ ?_ | refine gM_splitN ?_ ?_ | refine gM_split ?_ ?_ | refine condM_splitDN ?_ ?_ | refine condM_splitD ?_ ?_ | refine condM_splitN ?_ ?_ | refine condM_split ?_ ?_ | refine condM_any ?_ ?_ | intro _) | (simp [*, lbs, lbu, g1, g2]))
        all_goals try omega
      · rw [if_neg (by simp [g1, g2])] at e
        subst e
        repeat' (first | (with_reducible first | refine awp_seq ?_ | refine awp_blockS ?_ | refine awp_blockC ?_ | refine awp_blockR ?_ | refine awp_skip ?_ | refine awp_ret ?_ | refine awp_exit ?_ | refine awp_region ?_ | refine awp_regionD (id := 2) 13 mixed (by decide +kernel) ?_ | refine awp_regionD (id := 10) 23 mixed (by decide +kernel) ?_ | refine awp_regionD (id := 13) 14 mixed (by decide +kernel) ?_ | refine awp_condM ?_ | refine And.intro ?_ ?_ | refine gM_splitN ?_ ?_ | refine gM_split ?_ ?_ | refine condM_splitDN ?_ ?_ | refine condM_splitD ?_ ?_ | refine condM_splitN ?_ ?_ | refine condM_split ?_ ?_ | refine condM_any ?_ ?_ | intro _) | (simp [*, lbs, lbu, g1, g2]))
        all_goals try omega
end Go.Proofs.Ytmedbghkldmlhaa
