/- Contracts of functions for this claim: lemmas alone. -/
import Derived.Test.YtfpamehamllndaaGreatDoorP3
set_option linter.unusedSimpArgs false
set_option linter.unusedVariables false
namespace Go.Proofs.YtfpamehamllndaaGreatDoor
open Go Go.Fi

abbrev Tri := Int × Int × Int
def scan (f : Nat → Option Tri) : Nat → Nat → Option Tri
  | 0, _ => none
  | m + 1, k => match f k with
    | some r => some r
    | none => scan f m (k + 1)
theorem scan_end (f : Nat → Option Tri) {n k : Nat} (h : n ≤ k) : scan f (n - k) k = none := by rw [show n - k = 0 by omega]; rfl
theorem scan_hit {f : Nat → Option Tri} {n k : Nat} {r : Tri} (h : k < n) (hf : f k = some r) : scan f (n - k) k = some r := by
  rw [show n - k = (n - (k + 1)) + 1 by omega]; simp only [scan, hf]
theorem scan_miss {f : Nat → Option Tri} {n k : Nat} (h : k < n) (hf : f k = none) : scan f (n - k) k = scan f (n - (k + 1)) (k + 1) := by
  rw [show n - k = (n - (k + 1)) + 1 by omega]; simp only [scan, hf]
theorem scan_none {f : Nat → Option Tri} {n : Nat} (h : scan f n 0 = none) : ∀ k, k < n → f k = none := by
  have : ∀ m k, scan f m k = none → ∀ j, k ≤ j → j < k + m → f j = none := by
    intro m
    induction m with
    | zero => intro k _ j h1 h2; omega
    | succ m ih =>
      intro k hs j h1 h2
      simp only [scan] at hs
      cases hf : f k with
      | some r => rw [hf] at hs; cases hs
      | none =>
        rw [hf] at hs
        by_cases hj : j = k
        · subst hj; exact hf
        · exact ih (k + 1) hs j (by omega) (by omega)
  exact fun k hk => this n 0 h k (Nat.zero_le _) (by omega)
def orE (a b : Option Tri) : Option Tri := match a with
  | some r => some r
  | none => b
def fin (a : Option Tri) (b : Tri) : Tri := match a with
  | some r => r
  | none => b

structure NetIn (n : Net) : Prop where
  np : n.places.length < 1000
  nr : n.roads.length < 1000
  ps : ∀ k, k < n.places.length → (nth n.places k).size < 1000000
  rs : ∀ k, k < n.roads.length → (nth n.roads k).name.size < 1000000
  rp : ∀ k, k < n.roads.length → (nth n.roads k).pts.length < 1000

def errP (n : Net) (i : Nat) : Int := firstS [errUnless (nameB (nth n.places i)) 4, errUnless (!((n.places.take i).any fun x => decide (nth n.places i = x))) 5]
def fPlace (n : Net) (i : Nat) : Option Tri := if errP n i = 0 then none else some (i, 0, errP n i)
def errR (n : Net) (i : Nat) : Int := firstS [errUnless (nameB (nth n.roads i).name) 4, errUnless (!((n.roads.take i).any fun x => decide (x.name = (nth n.roads i).name))) 5,
  errUnless (winB (nth n.roads i).frm 0 (n.places.length - 1) && winB (nth n.roads i).to 0 (n.places.length - 1)) 6, errUnless (!decide ((nth n.roads i).frm = (nth n.roads i).to)) 26, errUnless (winB (nth n.roads i).metres 0 100000) 2,
  errUnless (decide (0 < (nth n.roads i).pts.length)) 10, errUnless (decide (((nth n.roads i).pts.length : Int) ≤ 8)) 8]
def fPt (l : List Pt) (i k : Nat) : Option Tri := if pointE l k = 0 then none else some (i, k, pointE l k)
def fOrd (l : List Pt) (i k : Nat) : Option Tri := if inOrderB l k then none else some (i, k, 23)
def fRoad (n : Net) (i : Nat) : Option Tri := if errR n i = 0 then orE (scan (fPt (nth n.roads i).pts i) (nth n.roads i).pts.length 0) (scan (fOrd (nth n.roads i).pts i) (nth n.roads i).pts.length 0) else some (i, 0, errR n i)
def netB (n : Net) : Tri := if 60 < n.roads.length then (0, 0, 8) else fin (scan (fRoad n) n.roads.length 0) (0, 0, 0)
def netE (n : Net) : Int := firstS [errUnless (decide (0 < n.places.length)) 10, errUnless (decide ((n.places.length : Int) ≤ 20)) 8]
def netS (n : Net) : Tri := if netE n = 0 then fin (scan (fPlace n) n.places.length 0) (netB n) else (0, 0, netE n)
def markP (r : Tri) : PV := .tup [.agg [.int .i64 r.1, .int .i64 r.2.1], .int .i64 r.2.2]

theorem pts_ok {l : List Pt} {i : Nat} (h0 : 0 < l.length) (h1 : l.length < 1000) (h : scan (fPt l i) l.length 0 = none) : PtsOk l := by
  have hp : ∀ k, k < l.length → pointE l k = 0 := fun k hk => by
    have := scan_none h k hk
    unfold fPt at this
    split at this
    · assumption
    · cases this
  have hw : ∀ k, k < l.length → winB (nth l k).at_ 0 86399 = true ∧ winB (nth l k).lo 0 7200 = true ∧ winB (nth l k).hi 0 7200 = true := fun k hk => by
    have := hp k hk
    unfold pointE at this
    cases h1 : winB (nth l k).at_ 0 86399 <;> cases h2 : winB (nth l k).lo 0 7200 <;> cases h3 : winB (nth l k).hi 0 7200 <;> simp_all [firstS, errUnless]
  refine ⟨h0, h1, fun k hk => ?_, fun k hk => ?_⟩
  · have := (hw k hk).1
    simp only [winB, Bool.and_eq_true, decide_eq_true_eq] at this
    omega
  · have h2 := (hw k hk).2.1
    have h3 := (hw k hk).2.2
    simp only [winB, Bool.and_eq_true, decide_eq_true_eq] at h2 h3
    omega

theorem contains_take (l : List ByteArray) (k : Nat) (hl : l.length < 1000) (hk : k ≤ l.length) (s : ByteArray) : RealCall Tryz.prog 54 [.sl k ((strs l).take k), .str s] (.bool ((l.take k).any fun x => decide (s = x))) true := by
  have h := contains_c (l.take k) s (by simp; omega)
  rw [List.length_take, Nat.min_eq_left hk] at h
  have e : (strs l).take k = strs (l.take k) := by simp [strs]
  rw [e]; exact h
theorem cRoads_take (l : List Road) (k : Nat) (hk : k ≤ l.length) : (cRoads l).take (k * 5) = cRoads (l.take k) := by
  have e : l = l.take k ++ l.drop k := (List.take_append_drop k l).symm
  have h1 : cRoads l = cRoads (l.take k) ++ cRoads (l.drop k) := by
    have h2 : cRoads (l.take k ++ l.drop k) = cRoads (l.take k) ++ cRoads (l.drop k) := List.flatMap_append
    rwa [← e] at h2
  rw [h1, List.take_append_of_le_length (by rw [cRoads_len, List.length_take, Nat.min_eq_left hk]; exact Nat.le_refl _), List.take_of_length_le (by rw [cRoads_len, List.length_take, Nat.min_eq_left hk]; exact Nat.le_refl _)]
theorem containsName_take (l : List Road) (k : Nat) (hl : l.length < 1000) (hk : k ≤ l.length) (x : Road) : RealCall Tryz.prog 73 [.sl k ((cRoads l).take (k * 5)), .fn 74 [.ip (cRoad x) 0]] (.bool ((l.take k).any fun y => decide (y.name = x.name))) true := by
  have h := containsFunc_c (l.take k) 74 [.ip (cRoad x) 0] (fun y => decide (y.name = x.name)) (by simp; omega) (fun i hi => sameName_c _ x)
  rw [List.length_take, Nat.min_eq_left hk] at h
  rw [cRoads_take l k hk]; exact h

theorem containsName_take' (l : List Road) (k : Nat) (hl : l.length < 1000) (hk : k ≤ l.length) (x : Road) :
    RealCall Tryz.prog 73 [.sl k ((cRoads l).take (k * 5)), .fn 74 [.ip [.str x.name, .int .i64 x.frm, .int .i64 x.to, .int .i64 x.metres, .sl x.pts.length (cPts x.pts)] 0]] (.bool ((l.take k).any fun y => decide (y.name = x.name))) true := containsName_take l k hl hk x
theorem isPlaceF' (k : Int) (n : Net) (h : n.places.length < 1000) : RealCall Tryz.prog 72 [.int .i64 k, .ip [.sl n.places.length (strs n.places), .sl n.roads.length (cRoads n.roads)] 0] (.bool (winB k 0 (n.places.length - 1))) true := isPlaceF_c k n h
theorem first_six (a b c d e f g : Int) (h : c ≠ 0) : firstS [a, b, c, d, e, f, g] ≠ 0 := by
  simp only [firstS]
  repeat' split
  all_goals simp_all
theorem scan_step {f : Nat → Option Tri} {n k : Nat} (h : k < n) : scan f (n - k) k = orE (f k) (scan f (n - (k + 1)) (k + 1)) := by
  rw [show n - k = (n - (k + 1)) + 1 by omega]; rfl

theorem firstS_nth : ∀ {l : List Int}, firstS l = 0 → ∀ i, i < l.length → nth l i = 0
  | [], _, i, hi => by simp at hi
  | e :: r, h, i, hi => by
    simp only [firstS] at h
    split at h
    · rename_i he
      match i, hi with
      | 0, _ => exact he
      | i + 1, hi => exact firstS_nth h i (by simpa using hi)
    · rename_i he; exact absurd h he
def Keep (p : Prop) : Prop := p
theorem keep {p : Prop} (h : p) : Keep p := h
theorem keep_def (p : Prop) : Keep p = p := rfl
set_option maxHeartbeats 2000000 in
theorem checkNet_c (n : Net) (h : NetIn n) : RealCall Tryz.prog 47 [aNet n] (markP (netS n)) true := by
  have hnp := h.np
  have hnr := h.nr
  unfold aNet cNet markP
  refine realcall_intro Tryz.func47 (by kernel_rfl) rfl (Nat.le_of_ble_eq_true (by kernel_rfl)) ?_
  simp only [Tryz.results47, Tryz.ntmps47]
  repeat' (first | (with_reducible first | refine awp_seq ?_ | refine awp_blockS ?_ | refine awp_blockC ?_ | refine awp_blockR ?_ | refine awp_skip ?_ | refine awp_ret ?_ | refine awp_exit ?_ | refine awp_region ?_ | refine awp_regionD (id := 1) 13 mixed (by decide +kernel) ?_ | refine awp_regionD (id := 7) 14 mixed (by decide +kernel) ?_ | refine awp_regionD (id := 18) 41 mixed (by decide +kernel) ?_ | refine awp_condM ?_ | refine And.intro ?_ ?_ | refine gE_splitN ?_ ?_ | refine gE_split ?_ ?_ | refine gQ_splitN ?_ ?_ | refine gQ_split ?_ ?_ | refine gM_splitN ?_ ?_ | refine gM_split ?_ ?_ | refine condM_splitDN ?_ ?_ | refine condM_splitD ?_ ?_ | refine condM_splitN ?_ ?_ | refine condM_split ?_ ?_ | refine condM_any ?_ ?_ | refine cw (unless_c _ _) ?_ | refine cw (first2_c _ _) ?_ | intro _) | (simp [*]))
  all_goals try (rename_i h0; simp [netS, netE, h0]; done)
  rename_i h0
  have hR : fin (scan (fPlace n) n.places.length 0) (netB n) = netS n := (if_pos h0).symm
  generalize netS n = R at *
  clear h0
  refine awp_for3 (fun (k : Nat) => k ≤ n.places.length ∧ scan (fPlace n) (n.places.length - k) k = scan (fPlace n) n.places.length 0) [1, 2, 33, 34] (fun (k : Nat) => [(35, .w false false (.int .i64 k))]) [1, 0] (fun (k : Nat) => []) (fun (k : Nat) => n.places.length - k) (fun (_u : Unit) => scan (fPlace n) n.places.length 0 = none) [1, 2] (fun (_u : Unit) => []) [1, 0] (fun (_u : Unit) => []) (0) ⟨Nat.zero_le _, rfl⟩ (by simp) (by simp) (fun k hk => ?_) (fun _u hf => ?_)
  · obtain ⟨hk, hj⟩ := hk
    by_cases hlt : k < n.places.length
    · have cn := isName_c _ (h.ps k hlt)
      have cc := contains_take n.places k hnp hk (nth n.places k)
      repeat' (first | (with_reducible first | refine awp_seq ?_ | refine awp_blockS ?_ | refine awp_blockC ?_ | refine awp_blockR ?_ | refine awp_skip ?_ | refine awp_ret ?_ | refine awp_exit ?_ | refine awp_region ?_ | refine awp_regionD (id := 1) 13 mixed (by decide +kernel) ?_ | refine awp_regionD (id := 7) 14 mixed (by decide +kernel) ?_ | refine awp_regionD (id := 18) 41 mixed (by decide +kernel) ?_ | refine awp_condM ?_ | refine And.intro ?_ ?_ | refine gE_splitN ?_ ?_ | refine gE_split ?_ ?_ | refine gQ_splitN ?_ ?_ | refine gQ_split ?_ ?_ | refine gM_splitN ?_ ?_ | refine gM_split ?_ ?_ | refine condM_splitDN ?_ ?_ | refine condM_splitD ?_ ?_ | refine condM_splitN ?_ ?_ | refine condM_split ?_ ?_ | refine condM_any ?_ ?_ | refine cw (unless_c _ _) ?_ | refine cw (first2_c _ _) ?_ | refine cw (cn) ?_ | refine cw (cc) ?_ | intro _) | (simp [*, hlt]))
      all_goals first
        | exact inI64 (by omega) (by omega)
        | omega
        | (rename_i h0; rw [← hR, ← hj, scan_hit hlt (show fPlace n k = some _ from if_neg h0)]; rfl)
        | (rename_i h0; (refine loopK_normal _ _ _ _ _ (k + 1) _ ?_ (by first | omega | (dsimp only; omega) | (simp; omega)) ?_; (· refine ⟨by omega, ?_⟩; rw [← hj, scan_miss hlt (if_pos h0)]); (refine le_of ?_ ?_ <;> first | trivial | (simp [*]; done))))
    · repeat' (first | (with_reducible first | refine awp_seq ?_ | refine awp_blockS ?_ | refine awp_blockC ?_ | refine awp_blockR ?_ | refine awp_skip ?_ | refine awp_ret ?_ | refine awp_exit ?_ | refine awp_region ?_ | refine awp_regionD (id := 1) 13 mixed (by decide +kernel) ?_ | refine awp_regionD (id := 7) 14 mixed (by decide +kernel) ?_ | refine awp_regionD (id := 18) 41 mixed (by decide +kernel) ?_ | refine awp_condM ?_ | refine And.intro ?_ ?_ | refine gE_splitN ?_ ?_ | refine gE_split ?_ ?_ | refine gQ_splitN ?_ ?_ | refine gQ_split ?_ ?_ | refine gM_splitN ?_ ?_ | refine gM_split ?_ ?_ | refine condM_splitDN ?_ ?_ | refine condM_splitD ?_ ?_ | refine condM_splitN ?_ ?_ | refine condM_split ?_ ?_ | refine condM_any ?_ ?_ | intro _) | (simp [*, hlt]))
      all_goals (refine finW_intro () ?_ ?_; (· rw [← hj, scan_end _ (by omega)]); (refine le_of ?_ ?_ <;> first | trivial | (simp [*]; done)))
  · rw [hf] at hR
    clear hf
    have hR : netB n = R := hR
    repeat' (first | (with_reducible first | refine awp_seq ?_ | refine awp_blockS ?_ | refine awp_blockC ?_ | refine awp_blockR ?_ | refine awp_skip ?_ | refine awp_ret ?_ | refine awp_exit ?_ | refine awp_region ?_ | refine awp_regionD (id := 1) 13 mixed (by decide +kernel) ?_ | refine awp_regionD (id := 7) 14 mixed (by decide +kernel) ?_ | refine awp_regionD (id := 18) 41 mixed (by decide +kernel) ?_ | refine awp_condM ?_ | refine And.intro ?_ ?_ | refine gE_splitN ?_ ?_ | refine gE_split ?_ ?_ | refine gQ_splitN ?_ ?_ | refine gQ_split ?_ ?_ | refine gM_splitN ?_ ?_ | refine gM_split ?_ ?_ | refine condM_splitDN ?_ ?_ | refine condM_splitD ?_ ?_ | refine condM_splitN ?_ ?_ | refine condM_split ?_ ?_ | refine condM_any ?_ ?_ | intro _) | (simp [*]))
    all_goals try (rename_i h0; rw [← hR, show netB n = (0, 0, 8) from if_pos (by omega)]; done)
    rename_i h0
    rw [show netB n = fin (scan (fRoad n) n.roads.length 0) (0, 0, 0) from if_neg (by omega)] at hR
    refine awp_for3 (fun (k : Nat) => k ≤ n.roads.length ∧ scan (fRoad n) (n.roads.length - k) k = scan (fRoad n) n.roads.length 0) [1, 2, 8, 66, 67] (fun (k : Nat) => [(68, .w false false (.int .i64 k))]) [1, 0] (fun (k : Nat) => []) (fun (k : Nat) => n.roads.length - k) (fun (_u : Unit) => scan (fRoad n) n.roads.length 0 = none) [2] (fun (_u : Unit) => []) [1, 0] (fun (_u : Unit) => []) (0) ⟨Nat.zero_le _, rfl⟩ (by simp) (by simp) (fun k hk => ?_) (fun _u hf => ?_)
    · obtain ⟨hk, hj⟩ := hk
      by_cases hlt : k < n.roads.length
      · have cn := isName_c _ (h.rs k hlt)
        have cc := containsName_take' n.roads k hnr hk (nth n.roads k)
        have hpl := h.rp k hlt
        generalize hr : nth n.roads k = r at *
        rw [scan_step hlt] at hj
        have hfr : fRoad n k = if errR n k = 0 then orE (scan (fPt r.pts k) r.pts.length 0) (scan (fOrd r.pts k) r.pts.length 0) else some (k, 0, errR n k) := by rw [← hr]; rfl
        have her : errR n k = firstS [errUnless (nameB r.name) 4, errUnless (!((n.roads.take k).any fun x => decide (x.name = r.name))) 5,
          errUnless (winB r.frm 0 (n.places.length - 1) && winB r.to 0 (n.places.length - 1)) 6, errUnless (!decide (r.frm = r.to)) 26, errUnless (winB r.metres 0 100000) 2, errUnless (decide (0 < r.pts.length)) 10, errUnless (decide ((r.pts.length : Int) ≤ 8)) 8] := by rw [← hr]; rfl
        generalize errR n k = er at *
        have kp := keep (And.intro hj (And.intro hfr her))
        have kR := keep hR
        clear hj hfr her hR
        cases h1 : winB r.frm 0 (n.places.length - 1) with
        | false =>
          repeat' (first | (with_reducible first | refine awp_seq ?_ | refine awp_blockS ?_ | refine awp_blockC ?_ | refine awp_blockR ?_ | refine awp_skip ?_ | refine awp_ret ?_ | refine awp_exit ?_ | refine awp_region ?_ | refine awp_regionD (id := 1) 13 mixed (by decide +kernel) ?_ | refine awp_regionD (id := 7) 14 mixed (by decide +kernel) ?_ | refine awp_regionD (id := 18) 41 mixed (by decide +kernel) ?_ | refine awp_condM ?_ | refine And.intro ?_ ?_ | refine gE_splitN ?_ ?_ | refine gE_split ?_ ?_ | refine gQ_splitN ?_ ?_ | refine gQ_split ?_ ?_ | refine gM_splitN ?_ ?_ | refine gM_split ?_ ?_ | refine condM_splitDN ?_ ?_ | refine condM_splitD ?_ ?_ | refine condM_splitN ?_ ?_ | refine condM_split ?_ ?_ | refine condM_any ?_ ?_ | refine cw (unless_c _ _) ?_ | refine cw (first7_c _ _ _ _ _ _ _) ?_ | refine cw (cn) ?_ | refine cw (cc) ?_ | refine cw (within_c _ _ _) ?_ | refine cw (isPlaceF' _ _ hnp) ?_ | intro _) | (simp [*, hlt, hr, cRoad]))
          all_goals try omega
          rotate_left 3
          · rename_i h0; exact absurd h0 (first_six _ _ _ _ _ _ _ (show errUnless false 6 ≠ 0 by decide))
          all_goals
            rename_i h0
            obtain ⟨hj, hfr, her⟩ := kp
            rw [h1, Bool.false_and] at her
            rw [← her] at h0
            have e1 : R = ((k : Int), 0, er) := by rw [← kR, ← hj, hfr, if_neg h0]; rfl
            rw [e1]
          all_goals exact her.symm
        | true =>
          repeat' (first | (with_reducible first | refine awp_seq ?_ | refine awp_blockS ?_ | refine awp_blockC ?_ | refine awp_blockR ?_ | refine awp_skip ?_ | refine awp_ret ?_ | refine awp_exit ?_ | refine awp_region ?_ | refine awp_regionD (id := 1) 13 mixed (by decide +kernel) ?_ | refine awp_regionD (id := 7) 14 mixed (by decide +kernel) ?_ | refine awp_regionD (id := 18) 41 mixed (by decide +kernel) ?_ | refine awp_condM ?_ | refine And.intro ?_ ?_ | refine gE_splitN ?_ ?_ | refine gE_split ?_ ?_ | refine gQ_splitN ?_ ?_ | refine gQ_split ?_ ?_ | refine gM_splitN ?_ ?_ | refine gM_split ?_ ?_ | refine condM_splitDN ?_ ?_ | refine condM_splitD ?_ ?_ | refine condM_splitN ?_ ?_ | refine condM_split ?_ ?_ | refine condM_any ?_ ?_ | refine cw (unless_c _ _) ?_ | refine cw (first7_c _ _ _ _ _ _ _) ?_ | refine cw (cn) ?_ | refine cw (cc) ?_ | refine cw (within_c _ _ _) ?_ | refine cw (isPlaceF' _ _ hnp) ?_ | intro _) | (simp [*, hlt, hr, cRoad]))
          all_goals try omega
          rotate_left 3
          rotate_left 1
          all_goals try
            rename_i h0
            obtain ⟨hj, hfr, her⟩ := kp
            rw [h1, Bool.true_and] at her
            rw [← her] at h0
            have e1 : R = ((k : Int), 0, er) := by rw [← kR, ← hj, hfr, if_neg h0]; rfl
            rw [e1]
          all_goals try exact her.symm
          rename_i h0
          obtain ⟨hj, hfr, her⟩ := kp
          rw [h1, Bool.true_and] at her
          have e0 : er = 0 := her.trans h0
          rw [if_pos e0] at hfr
          have hpos : 0 < r.pts.length := by
            have := firstS_nth h0 5 (show (5 : Nat) < 7 by omega)
            simp [errUnless] at this
            exact List.length_pos_iff.2 this
          clear h0 her cn cc e0
          have kj := keep hj
          have kf := keep hfr
          clear hj hfr
          refine awp_for3 (fun (i : Nat) => i ≤ r.pts.length ∧ scan (fPt r.pts k) (r.pts.length - i) i = scan (fPt r.pts k) r.pts.length 0) [1, 2, 8, 9, 10, 66, 67, 68, 126] (fun (i : Nat) => [(127, .w false false (.int .i64 i))]) [3, 1, 0] (fun (i : Nat) => []) (fun (i : Nat) => r.pts.length - i) (fun (_u : Unit) => scan (fPt r.pts k) r.pts.length 0 = none) [1, 2, 8, 9, 10, 66, 67, 68] (fun (_u : Unit) => []) [3, 1, 0] (fun (_u : Unit) => []) (0) ⟨Nat.zero_le _, rfl⟩ (by simp) (by simp) (fun i hk => ?_) (fun _u hf => ?_)
          · obtain ⟨hk2, hj2⟩ := hk
            by_cases hlt2 : i < r.pts.length
            · have cp := pointErr_c r.pts i hlt2 hpl
              repeat' (first | (with_reducible first | refine awp_seq ?_ | refine awp_blockS ?_ | refine awp_blockC ?_ | refine awp_blockR ?_ | refine awp_skip ?_ | refine awp_ret ?_ | refine awp_exit ?_ | refine awp_region ?_ | refine awp_regionD (id := 1) 13 mixed (by decide +kernel) ?_ | refine awp_regionD (id := 7) 14 mixed (by decide +kernel) ?_ | refine awp_regionD (id := 18) 41 mixed (by decide +kernel) ?_ | refine awp_condM ?_ | refine And.intro ?_ ?_ | refine gE_splitN ?_ ?_ | refine gE_split ?_ ?_ | refine gQ_splitN ?_ ?_ | refine gQ_split ?_ ?_ | refine gM_splitN ?_ ?_ | refine gM_split ?_ ?_ | refine condM_splitDN ?_ ?_ | refine condM_splitD ?_ ?_ | refine condM_splitN ?_ ?_ | refine condM_split ?_ ?_ | refine condM_any ?_ ?_ | refine cw (cp) ?_ | intro _) | (simp [*, hlt2]))
              all_goals first
                | exact inI64 (by omega) (by omega)
                | omega
                | (rename_i h0; have e1 : R = ((k : Int), (i : Int), pointE r.pts i) := by rw [← kR, ← kj, kf, ← hj2, scan_hit hlt2 (if_neg h0)]; rfl
                   rw [e1])
                | (rename_i h0; (refine loopK_normal _ _ _ _ _ (i + 1) _ ?_ (by first | omega | (dsimp only; omega) | (simp; omega)) ?_; (· refine ⟨by omega, ?_⟩; rw [← hj2, scan_miss hlt2 (if_pos h0)]); (refine le_of ?_ ?_ <;> first | trivial | (simp [*]; done))))
            · repeat' (first | (with_reducible first | refine awp_seq ?_ | refine awp_blockS ?_ | refine awp_blockC ?_ | refine awp_blockR ?_ | refine awp_skip ?_ | refine awp_ret ?_ | refine awp_exit ?_ | refine awp_region ?_ | refine awp_regionD (id := 1) 13 mixed (by decide +kernel) ?_ | refine awp_regionD (id := 7) 14 mixed (by decide +kernel) ?_ | refine awp_regionD (id := 18) 41 mixed (by decide +kernel) ?_ | refine awp_condM ?_ | refine And.intro ?_ ?_ | refine gE_splitN ?_ ?_ | refine gE_split ?_ ?_ | refine gQ_splitN ?_ ?_ | refine gQ_split ?_ ?_ | refine gM_splitN ?_ ?_ | refine gM_split ?_ ?_ | refine condM_splitDN ?_ ?_ | refine condM_splitD ?_ ?_ | refine condM_splitN ?_ ?_ | refine condM_split ?_ ?_ | refine condM_any ?_ ?_ | intro _) | (simp [*, hlt2]))
              all_goals (refine finW_intro () ?_ ?_; (· rw [← hj2, scan_end _ (by omega)]); (refine le_of ?_ ?_ <;> first | trivial | (simp [*]; done)))
          · have kf2 : Keep (fRoad n k = scan (fOrd r.pts k) r.pts.length 0) := by rw [keep_def, kf, hf]; rfl
            have pk := pts_ok hpos hpl hf
            clear kf hf
            repeat' (first | (with_reducible first | refine awp_seq ?_ | refine awp_blockS ?_ | refine awp_blockC ?_ | refine awp_blockR ?_ | refine awp_skip ?_ | refine awp_ret ?_ | refine awp_exit ?_ | refine awp_region ?_ | refine awp_regionD (id := 1) 13 mixed (by decide +kernel) ?_ | refine awp_regionD (id := 7) 14 mixed (by decide +kernel) ?_ | refine awp_regionD (id := 18) 41 mixed (by decide +kernel) ?_ | refine awp_condM ?_ | refine And.intro ?_ ?_ | refine gE_splitN ?_ ?_ | refine gE_split ?_ ?_ | refine gQ_splitN ?_ ?_ | refine gQ_split ?_ ?_ | refine gM_splitN ?_ ?_ | refine gM_split ?_ ?_ | refine condM_splitDN ?_ ?_ | refine condM_splitD ?_ ?_ | refine condM_splitN ?_ ?_ | refine condM_split ?_ ?_ | refine condM_any ?_ ?_ | intro _) | (simp [*]))
            refine awp_for3 (fun (i : Nat) => i ≤ r.pts.length ∧ scan (fOrd r.pts k) (r.pts.length - i) i = scan (fOrd r.pts k) r.pts.length 0) [1, 2, 8, 9, 10, 66, 67, 68, 143] (fun (i : Nat) => [(144, .w false false (.int .i64 i))]) [3, 1, 0] (fun (i : Nat) => []) (fun (i : Nat) => r.pts.length - i) (fun (_u : Unit) => scan (fOrd r.pts k) r.pts.length 0 = none) [1, 2, 8, 66, 67, 68] (fun (_u : Unit) => []) [3, 1, 0] (fun (_u : Unit) => []) (0) ⟨Nat.zero_le _, rfl⟩ (by simp) (by simp) (fun i hk => ?_) (fun _u hf => ?_)
            · obtain ⟨hk2, hj2⟩ := hk
              by_cases hlt2 : i < r.pts.length
              · have cp := inOrder_c r.pts i hlt2 pk
                repeat' (first | (with_reducible first | refine awp_seq ?_ | refine awp_blockS ?_ | refine awp_blockC ?_ | refine awp_blockR ?_ | refine awp_skip ?_ | refine awp_ret ?_ | refine awp_exit ?_ | refine awp_region ?_ | refine awp_regionD (id := 1) 13 mixed (by decide +kernel) ?_ | refine awp_regionD (id := 7) 14 mixed (by decide +kernel) ?_ | refine awp_regionD (id := 18) 41 mixed (by decide +kernel) ?_ | refine awp_condM ?_ | refine And.intro ?_ ?_ | refine gE_splitN ?_ ?_ | refine gE_split ?_ ?_ | refine gQ_splitN ?_ ?_ | refine gQ_split ?_ ?_ | refine gM_splitN ?_ ?_ | refine gM_split ?_ ?_ | refine condM_splitDN ?_ ?_ | refine condM_splitD ?_ ?_ | refine condM_splitN ?_ ?_ | refine condM_split ?_ ?_ | refine condM_any ?_ ?_ | refine cw (cp) ?_ | intro _) | (simp [*, hlt2]))
                all_goals first
                  | exact inI64 (by omega) (by omega)
                  | omega
                  | (rename_i h0; (refine loopK_normal _ _ _ _ _ (i + 1) _ ?_ (by first | omega | (dsimp only; omega) | (simp; omega)) ?_; (· refine ⟨by omega, ?_⟩; rw [← hj2, scan_miss hlt2 (if_pos h0)]); (refine le_of ?_ ?_ <;> first | trivial | (simp [*]; done))))
                  | (rename_i h0; have e1 : R = ((k : Int), (i : Int), 23) := by rw [← kR, ← kj, kf2, ← hj2, scan_hit hlt2 (show fOrd r.pts k i = some _ from if_neg (Bool.eq_false_iff.1 h0))]; rfl
                     rw [e1])
              · repeat' (first | (with_reducible first | refine awp_seq ?_ | refine awp_blockS ?_ | refine awp_blockC ?_ | refine awp_blockR ?_ | refine awp_skip ?_ | refine awp_ret ?_ | refine awp_exit ?_ | refine awp_region ?_ | refine awp_regionD (id := 1) 13 mixed (by decide +kernel) ?_ | refine awp_regionD (id := 7) 14 mixed (by decide +kernel) ?_ | refine awp_regionD (id := 18) 41 mixed (by decide +kernel) ?_ | refine awp_condM ?_ | refine And.intro ?_ ?_ | refine gE_splitN ?_ ?_ | refine gE_split ?_ ?_ | refine gQ_splitN ?_ ?_ | refine gQ_split ?_ ?_ | refine gM_splitN ?_ ?_ | refine gM_split ?_ ?_ | refine condM_splitDN ?_ ?_ | refine condM_splitD ?_ ?_ | refine condM_splitN ?_ ?_ | refine condM_split ?_ ?_ | refine condM_any ?_ ?_ | intro _) | (simp [*, hlt2]))
                all_goals (refine finW_intro () ?_ ?_; (· rw [← hj2, scan_end _ (by omega)]); (refine le_of ?_ ?_ <;> first | trivial | (simp [*]; done)))
            · repeat' (first | (with_reducible first | refine awp_seq ?_ | refine awp_blockS ?_ | refine awp_blockC ?_ | refine awp_blockR ?_ | refine awp_skip ?_ | refine awp_ret ?_ | refine awp_exit ?_ | refine awp_region ?_ | refine awp_regionD (id := 1) 13 mixed (by decide +kernel) ?_ | refine awp_regionD (id := 7) 14 mixed (by decide +kernel) ?_ | refine awp_regionD (id := 18) 41 mixed (by decide +kernel) ?_ | refine awp_condM ?_ | refine And.intro ?_ ?_ | refine gE_splitN ?_ ?_ | refine gE_split ?_ ?_ | refine gQ_splitN ?_ ?_ | refine gQ_split ?_ ?_ | refine gM_splitN ?_ ?_ | refine gM_split ?_ ?_ | refine condM_splitDN ?_ ?_ | refine condM_splitD ?_ ?_ | refine condM_splitN ?_ ?_ | refine condM_split ?_ ?_ | refine condM_any ?_ ?_ | intro _) | (simp [*]))
              all_goals first
                | exact inI64 (by omega) (by omega)
                | (refine loopK_normal _ _ _ _ _ (k + 1) _ ?_ (by first | omega | (dsimp only; omega) | (simp; omega)) ?_; (· refine ⟨by omega, ?_⟩; rw [← kj, kf2, hf]; rfl); (refine le_of ?_ ?_ <;> first | trivial | (simp [*]; done)))
      · repeat' (first | (with_reducible first | refine awp_seq ?_ | refine awp_blockS ?_ | refine awp_blockC ?_ | refine awp_blockR ?_ | refine awp_skip ?_ | refine awp_ret ?_ | refine awp_exit ?_ | refine awp_region ?_ | refine awp_regionD (id := 1) 13 mixed (by decide +kernel) ?_ | refine awp_regionD (id := 7) 14 mixed (by decide +kernel) ?_ | refine awp_regionD (id := 18) 41 mixed (by decide +kernel) ?_ | refine awp_condM ?_ | refine And.intro ?_ ?_ | refine gE_splitN ?_ ?_ | refine gE_split ?_ ?_ | refine gQ_splitN ?_ ?_ | refine gQ_split ?_ ?_ | refine gM_splitN ?_ ?_ | refine gM_split ?_ ?_ | refine condM_splitDN ?_ ?_ | refine condM_splitD ?_ ?_ | refine condM_splitN ?_ ?_ | refine condM_split ?_ ?_ | refine condM_any ?_ ?_ | intro _) | (simp [*, hlt]))
        all_goals (refine finW_intro () ?_ ?_; (· rw [← hj, scan_end _ (by omega)]); (refine le_of ?_ ?_ <;> first | trivial | (simp [*]; done)))
    · rw [hf] at hR
      have hR : (0, 0, 0) = R := hR
      repeat' (first | (with_reducible first | refine awp_seq ?_ | refine awp_blockS ?_ | refine awp_blockC ?_ | refine awp_blockR ?_ | refine awp_skip ?_ | refine awp_ret ?_ | refine awp_exit ?_ | refine awp_region ?_ | refine awp_regionD (id := 1) 13 mixed (by decide +kernel) ?_ | refine awp_regionD (id := 7) 14 mixed (by decide +kernel) ?_ | refine awp_regionD (id := 18) 41 mixed (by decide +kernel) ?_ | refine awp_condM ?_ | refine And.intro ?_ ?_ | refine gE_splitN ?_ ?_ | refine gE_split ?_ ?_ | refine gQ_splitN ?_ ?_ | refine gQ_split ?_ ?_ | refine gM_splitN ?_ ?_ | refine gM_split ?_ ?_ | refine condM_splitDN ?_ ?_ | refine condM_splitD ?_ ?_ | refine condM_splitN ?_ ?_ | refine condM_split ?_ ?_ | refine condM_any ?_ ?_ | intro _) | (simp [*]))
      all_goals (rw [← hR])
theorem open_c (n : Net) (h : NetIn n) : RealCall Tryz.prog 18 [aNet n] (.tup [aNet n, .int .i64 (netS n).2.2]) false := by
  have hc := checkNet_c n h
  unfold aNet cNet markP at *
  refine realcall_intro Tryz.func18 (by kernel_rfl) rfl (Nat.le_of_ble_eq_true (by kernel_rfl)) ?_
  simp only [Tryz.results18, Tryz.ntmps18]
  repeat' (first | (with_reducible first | refine awp_seq ?_ | refine awp_blockS ?_ | refine awp_blockC ?_ | refine awp_blockR ?_ | refine awp_skip ?_ | refine awp_ret ?_ | refine awp_exit ?_ | refine awp_region ?_ | refine awp_condM ?_ | refine And.intro ?_ ?_ | refine gE_splitN ?_ ?_ | refine gE_split ?_ ?_ | refine gQ_splitN ?_ ?_ | refine gQ_split ?_ ?_ | refine gM_splitN ?_ ?_ | refine gM_split ?_ ?_ | refine condM_splitDN ?_ ?_ | refine condM_splitD ?_ ?_ | refine condM_splitN ?_ ?_ | refine condM_split ?_ ?_ | refine condM_any ?_ ?_ | refine cw (hc) ?_ | intro _) | (simp [*]))
end Go.Proofs.YtfpamehamllndaaGreatDoor
namespace Go.Proofs.YtfpamehamllndaaGreatDoor
open Go Go.Fi

theorem fPt_ne {l : List Pt} {i k : Nat} {r : Tri} (h : fPt l i k = some r) : r.2.2 ≠ 0 := by
  unfold fPt at h; split at h
  · cases h
  · injection h with h; subst h; assumption
theorem fOrd_ne {l : List Pt} {i k : Nat} {r : Tri} (h : fOrd l i k = some r) : r.2.2 ≠ 0 := by
  unfold fOrd at h; split at h
  · cases h
  · injection h with h; subst h; exact (by decide : (23 : Int) ≠ 0)
theorem scan_some {f : Nat → Option Tri} {r : Tri} : ∀ {m k : Nat}, scan f m k = some r → ∃ j, k ≤ j ∧ j < k + m ∧ f j = some r
  | 0, k, h => by cases h
  | m + 1, k, h => by
    simp only [scan] at h
    cases hf : f k with
    | some q => rw [hf] at h; injection h with h; subst h; exact ⟨k, Nat.le_refl _, by omega, hf⟩
    | none =>
      rw [hf] at h
      obtain ⟨j, h1, h2, h3⟩ := scan_some h
      exact ⟨j, by omega, by omega, h3⟩
theorem fRoad_ne {n : Net} {k : Nat} {r : Tri} (h : fRoad n k = some r) : r.2.2 ≠ 0 := by
  unfold fRoad at h
  split at h
  · unfold orE at h
    split at h
    · rename_i hs
      injection h with h; subst h
      obtain ⟨j, _, _, hj⟩ := scan_some hs
      exact fPt_ne hj
    · obtain ⟨j, _, _, hj⟩ := scan_some h
      exact fOrd_ne hj
  · injection h with h; subst h; assumption
theorem fPlace_ne {n : Net} {k : Nat} {r : Tri} (h : fPlace n k = some r) : r.2.2 ≠ 0 := by
  unfold fPlace at h; split at h
  · cases h
  · injection h with h; subst h; assumption

structure PtsInc (l : List Pt) : Prop where
  inc : ∀ k, 0 < k → k < l.length → (nth l (k - 1)).at_ < (nth l k).at_
  le : ∀ k, k < l.length → (nth l k).lo ≤ (nth l k).hi
  small : ∀ k, k < l.length → 0 ≤ (nth l k).lo ∧ (nth l k).lo ≤ 7200 ∧ 0 ≤ (nth l k).hi ∧ (nth l k).hi ≤ 7200
theorem pts_inc {l : List Pt} {i : Nat} (h : scan (fPt l i) l.length 0 = none) : PtsInc l := by
  have hp : ∀ k, k < l.length → pointE l k = 0 := fun k hk => by
    have := scan_none h k hk
    unfold fPt at this
    split at this
    · assumption
    · cases this
  have hq : ∀ k, k < l.length → (winB (nth l k).at_ 0 86399 && winB (nth l k).lo 0 7200 && winB (nth l k).hi 0 7200) = true ∧ (decide ((nth l k).lo ≤ (nth l k).hi) && (decide (k = 0) || decide ((nth l (k - 1)).at_ < (nth l k).at_))) = true := fun k hk => by
    have h0 := hp k hk
    unfold pointE at h0
    have h1 := firstS_nth h0 0 (show (0 : Nat) < 2 by omega)
    have h2 := firstS_nth h0 1 (show (1 : Nat) < 2 by omega)
    simp only [nth_zero, nth_succ, errUnless] at h1 h2
    constructor
    · cases hb : (winB (nth l k).at_ 0 86399 && winB (nth l k).lo 0 7200 && winB (nth l k).hi 0 7200) with
      | true => rfl
      | false => rw [hb] at h1; exact absurd h1 (by decide)
    · cases hb : (decide ((nth l k).lo ≤ (nth l k).hi) && (decide (k = 0) || decide ((nth l (k - 1)).at_ < (nth l k).at_))) with
      | true => rfl
      | false => rw [hb] at h2; exact absurd h2 (by decide)
  refine ⟨fun k h0 hk => ?_, fun k hk => ?_, fun k hk => ?_⟩
  · have := (hq k hk).2
    simp only [Bool.and_eq_true, Bool.or_eq_true, decide_eq_true_eq] at this
    omega
  · have := (hq k hk).2
    simp only [Bool.and_eq_true, Bool.or_eq_true, decide_eq_true_eq] at this
    omega
  · have := (hq k hk).1
    simp only [Bool.and_eq_true, winB, decide_eq_true_eq] at this
    omega
theorem PtsInc.lt {l : List Pt} (h : PtsInc l) {i : Nat} : ∀ {j : Nat}, i < j → j < l.length → (nth l i).at_ < (nth l j).at_
  | 0, h1, _ => by omega
  | j + 1, h1, h2 => by
    have h3 := h.inc (j + 1) (by omega) h2
    simp only [Nat.add_sub_cancel] at h3
    by_cases hij : i = j
    · subst hij; exact h3
    · have := h.lt (i := i) (j := j) (by omega) (by omega)
      omega

structure RoadOk (n : Net) (r : Road) : Prop where
  frm : 0 ≤ r.frm ∧ r.frm < n.places.length
  to : 0 ≤ r.to ∧ r.to < n.places.length
  ne : r.frm ≠ r.to
  met : 0 ≤ r.metres ∧ r.metres ≤ 100000
  pts : PtsOk r.pts
  inc : PtsInc r.pts
  len : r.pts.length ≤ 8
  ord : ∀ k, k < r.pts.length → inOrderB r.pts k = true
structure NetOk (n : Net) : Prop where
  pos : 0 < n.places.length
  np : n.places.length ≤ 20
  nr : n.roads.length ≤ 60
  pname : ∀ k, k < n.places.length → nameB (nth n.places k) = true ∧ ((n.places.take k).any fun x => decide (nth n.places k = x)) = false
  rname : ∀ k, k < n.roads.length → nameB (nth n.roads k).name = true ∧ ((n.roads.take k).any fun x => decide (x.name = (nth n.roads k).name)) = false
  road : ∀ k, k < n.roads.length → RoadOk n (nth n.roads k)

theorem unless_zero {b : Bool} {e : Int} (he : e ≠ 0) (h : errUnless b e = 0) : b = true := by
  cases b with
  | true => rfl
  | false => exact absurd h he
theorem win_of {a lo hi : Int} (h : winB a lo hi = true) : lo ≤ a ∧ a ≤ hi := by
  simpa [winB] using h
theorem net_ok {n : Net} (hn : NetIn n) (h : (netS n).2.2 = 0) : NetOk n := by
  unfold netS at h
  split at h
  · rename_i h0
    have a1 := unless_zero (by decide) (firstS_nth h0 0 (show (0 : Nat) < 2 by omega))
    have a2 := unless_zero (by decide) (firstS_nth h0 1 (show (1 : Nat) < 2 by omega))
    simp only [decide_eq_true_eq] at a1 a2
    cases hp : scan (fPlace n) n.places.length 0 with
    | some r =>
      rw [hp] at h
      obtain ⟨j, _, _, hj⟩ := scan_some hp
      exact absurd h (fPlace_ne hj)
    | none =>
      rw [hp] at h
      simp only [fin, netB] at h
      split at h
      · exact absurd h (by decide)
      · rename_i h60
        cases hr : scan (fRoad n) n.roads.length 0 with
        | some r =>
          rw [hr] at h
          obtain ⟨j, _, _, hj⟩ := scan_some hr
          exact absurd h (fRoad_ne hj)
        | none =>
          have e1 : ∀ k, k < n.roads.length → errR n k = 0 := fun k hk => by
            have := scan_none hr k hk
            unfold fRoad at this
            split at this
            · assumption
            · cases this
          refine ⟨a1, by omega, by omega, fun k hk => ?_, fun k hk => ?_, fun k hk => ?_⟩
          · have := scan_none hp k hk
            unfold fPlace at this
            split at this
            · rename_i he
              have b1 := unless_zero (by decide) (firstS_nth he 0 (show (0 : Nat) < 2 by omega))
              have b2 := unless_zero (by decide) (firstS_nth he 1 (show (1 : Nat) < 2 by omega))
              exact ⟨b1, by simpa using b2⟩
            · cases this
          · have he := e1 k hk
            have b1 := unless_zero (by decide) (firstS_nth he 0 (show (0 : Nat) < 7 by omega))
            have b2 := unless_zero (by decide) (firstS_nth he 1 (show (1 : Nat) < 7 by omega))
            exact ⟨b1, by simpa using b2⟩
          · have he := e1 k hk
            have b2 := unless_zero (by decide) (firstS_nth he 2 (show (2 : Nat) < 7 by omega))
            have b3 := unless_zero (by decide) (firstS_nth he 3 (show (3 : Nat) < 7 by omega))
            have b4 := unless_zero (by decide) (firstS_nth he 4 (show (4 : Nat) < 7 by omega))
            have b5 := unless_zero (by decide) (firstS_nth he 5 (show (5 : Nat) < 7 by omega))
            have b6 := unless_zero (by decide) (firstS_nth he 6 (show (6 : Nat) < 7 by omega))
            simp only [Bool.and_eq_true] at b2
            have c1 := win_of b2.1
            have c2 := win_of b2.2
            have c4 := win_of b4
            simp only [Bool.not_eq_true', decide_eq_false_iff_not, decide_eq_true_eq] at b3 b5 b6
            have hf := scan_none hr k hk
            unfold fRoad at hf
            rw [if_pos he] at hf
            unfold orE at hf
            split at hf
            · cases hf
            · rename_i hs
              have hlen := hn.rp k hk
              refine ⟨by omega, by omega, b3, c4, pts_ok b5 hlen hs, pts_inc hs, by omega, fun i hi => ?_⟩
              have := scan_none hf i hi
              unfold fOrd at this
              split at this
              · assumption
              · cases this
  · rename_i h0
    exact absurd h h0

def takesR (n : Net) (road at_ : Int) : Tri :=
  if firstS [(netS n).2.2, errUnless (winB road 0 (n.roads.length - 1)) 6, errUnless (winB at_ 0 604800) 2] = 0 then (takesS (nth n.roads road.toNat).pts at_ false, takesS (nth n.roads road.toNat).pts at_ true, 0)
  else (0, 0, firstS [(netS n).2.2, errUnless (winB road 0 (n.roads.length - 1)) 6, errUnless (winB at_ 0 604800) 2])
theorem takesR_c (r : Road) (at_ : Int) (hi : Bool) (hl : PtsOk r.pts) (h0 : 0 ≤ at_) (h1 : at_ ≤ 4000000000000000) : RealCall Tryz.prog 37 [.agg (cRoad r), .int .i64 at_, endV hi] (.int .i64 (takesS r.pts at_ hi)) true := takes_c r.name r.frm r.to r.metres r.pts at_ hi hl h0 h1
set_option maxHeartbeats 4000000 in
theorem takes19_c (n : Net) (h : NetIn n) (road at_ : Int) : RealCall Tryz.prog 13 [aNet n, .int .i64 road, .int .i64 at_] (markP (takesR n road at_)) true := by
  have co := open_c n h
  have cr := roadErr_c n road h.nr
  have hnr := h.nr
  unfold takesR
  by_cases h0 : firstS [(netS n).2.2, errUnless (winB road 0 (n.roads.length - 1)) 6, errUnless (winB at_ 0 604800) 2] = 0
  · rw [if_pos h0]
    have e1 : (netS n).2.2 = 0 := firstS_nth h0 0 (show (0 : Nat) < 3 by omega)
    have e2 := win_of (unless_zero (by decide) (firstS_nth h0 1 (show (1 : Nat) < 3 by omega)))
    have e3 := win_of (unless_zero (by decide) (firstS_nth h0 2 (show (2 : Nat) < 3 by omega)))
    have ok := net_ok h e1
    obtain ⟨k, rfl⟩ := Int.eq_ofNat_of_zero_le e2.1
    have hk : k < n.roads.length := by omega
    have ht0 : RealCall Tryz.prog 37 [.agg (cRoad (nth n.roads k)), .int .i64 at_, .fn 38 []] (.int .i64 (takesS (nth n.roads k).pts at_ false)) true := takesR_c _ at_ false (ok.road k hk).pts e3.1 (by omega)
    have ht1 : RealCall Tryz.prog 37 [.agg (cRoad (nth n.roads k)), .int .i64 at_, .fn 39 []] (.int .i64 (takesS (nth n.roads k).pts at_ true)) true := takesR_c _ at_ true (ok.road k hk).pts e3.1 (by omega)
    clear ok e1 e2
    unfold aNet cNet markP at *
    refine realcall_intro Tryz.func13 (by kernel_rfl) rfl (Nat.le_of_ble_eq_true (by kernel_rfl)) ?_
    simp only [Tryz.results13, Tryz.ntmps13]
    repeat' (first | (with_reducible first | refine awp_seq ?_ | refine awp_blockS ?_ | refine awp_blockC ?_ | refine awp_blockR ?_ | refine awp_skip ?_ | refine awp_ret ?_ | refine awp_exit ?_ | refine awp_region ?_ | refine awp_regionD (id := 5) 15 mixed (by decide +kernel) ?_ | refine awp_condM ?_ | refine And.intro ?_ ?_ | refine gE_splitN ?_ ?_ | refine gE_split ?_ ?_ | refine gQ_splitN ?_ ?_ | refine gQ_split ?_ ?_ | refine gM_splitN ?_ ?_ | refine gM_split ?_ ?_ | refine condM_splitDN ?_ ?_ | refine condM_splitD ?_ ?_ | refine condM_splitN ?_ ?_ | refine condM_split ?_ ?_ | refine condM_any ?_ ?_ | refine cw (co) ?_ | refine cw (cr) ?_ | refine cw (timeErr_c _) ?_ | refine cw (first3_c _ _ _) ?_ | refine cw (ht0) ?_ | refine cw (ht1) ?_ | intro _) | (simp [*, hk]))
    all_goals omega
  · rw [if_neg h0]
    unfold aNet cNet markP at *
    refine realcall_intro Tryz.func13 (by kernel_rfl) rfl (Nat.le_of_ble_eq_true (by kernel_rfl)) ?_
    simp only [Tryz.results13, Tryz.ntmps13]
    repeat' (first | (with_reducible first | refine awp_seq ?_ | refine awp_blockS ?_ | refine awp_blockC ?_ | refine awp_blockR ?_ | refine awp_skip ?_ | refine awp_ret ?_ | refine awp_exit ?_ | refine awp_region ?_ | refine awp_regionD (id := 5) 15 mixed (by decide +kernel) ?_ | refine awp_condM ?_ | refine And.intro ?_ ?_ | refine gE_splitN ?_ ?_ | refine gE_split ?_ ?_ | refine gQ_splitN ?_ ?_ | refine gQ_split ?_ ?_ | refine gM_splitN ?_ ?_ | refine gM_split ?_ ?_ | refine condM_splitDN ?_ ?_ | refine condM_splitD ?_ ?_ | refine condM_splitN ?_ ?_ | refine condM_split ?_ ?_ | refine condM_any ?_ ?_ | refine cw (co) ?_ | refine cw (cr) ?_ | refine cw (timeErr_c _) ?_ | refine cw (first3_c _ _ _) ?_ | intro _) | (simp [*]))
end Go.Proofs.YtfpamehamllndaaGreatDoor

