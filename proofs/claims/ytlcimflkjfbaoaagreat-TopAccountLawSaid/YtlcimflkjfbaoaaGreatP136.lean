/- Contracts of functions for this claim: lemmas alone. -/
import Derived.Test.YtlcimflkjfbaoaaGreatP134
set_option linter.unusedSimpArgs false
set_option linter.unusedVariables false
namespace Go.Proofs.YtlcimflkjfbaoaaGreat
open Go Go.Fi
set_option maxRecDepth 20000

/-! ### a trip of segments -/
structure Seg where
  zone : Int
  metres : Int
  secs : Int
deriving Inhabited
def cSeg (s : Seg) : List PV := [.int .i64 s.zone, .int .i64 s.metres, .int .i64 s.secs]
def cSegs (l : List Seg) : List PV := l.flatMap cSeg
@[simp] theorem cSegs_len (l : List Seg) : (cSegs l).length = l.length * 3 := flatMap_len cSeg 3 (fun _ => rfl) l
@[simp] theorem cSegs_drop (l : List Seg) (k : Nat) (h : k < l.length) : ((cSegs l).drop (k * 3)).take 3 = cSeg (nth l k) := flatMap_drop cSeg 3 (fun _ => rfl) l k h
@[simp] theorem cSegs_0 (l : List Seg) (k : Nat) (h : k < l.length) : nthP (cSegs l) (k * 3) = .int .i64 (nth l k).zone := flatMap_get cSeg 3 (fun _ => rfl) l k 0 h (by omega)
@[simp] theorem cSegs_1 (l : List Seg) (k : Nat) (h : k < l.length) : nthP (cSegs l) (k * 3 + 1) = .int .i64 (nth l k).metres := flatMap_get cSeg 3 (fun _ => rfl) l k 1 h (by omega)
@[simp] theorem cSegs_2 (l : List Seg) (k : Nat) (h : k < l.length) : nthP (cSegs l) (k * 3 + 2) = .int .i64 (nth l k).secs := flatMap_get cSeg 3 (fun _ => rfl) l k 2 h (by omega)
structure SegOk (s : Seg) : Prop where
  z : s.zone = 0 ∨ s.zone = 1
  m : 0 ≤ s.metres ∧ s.metres ≤ 50000
  s : 1 ≤ s.secs ∧ s.secs ≤ 3600
structure SegsOk (l : List Seg) : Prop where
  n : 1 ≤ l.length ∧ l.length ≤ 6
  seg : ∀ k, k < l.length → SegOk (nth l k)
def secsS (l : List Seg) : Int := (l.map (·.secs)).sum
theorem secsS_succ (l : List Seg) (k : Nat) (h : k < l.length) : secsS (l.take (k + 1)) = secsS (l.take k) + (nth l k).secs := by
  unfold secsS
  rw [take_succ_nth l k h]; simp
theorem secs_bd {l : List Seg} (h : SegsOk l) : ∀ k : Nat, k ≤ l.length → 0 ≤ secsS (l.take k) ∧ secsS (l.take k) ≤ 3600 * (k : Int)
  | 0, _ => by simp [secsS]
  | k + 1, hk => by
    have ih := secs_bd h k (by omega)
    have := (h.seg k (by omega)).s
    rw [secsS_succ l k (by omega)]
    omega
/-- a segment that is counted -/
def cCnt (s : Seg) : List PV := [.int .i64 0, .str ⟨#[100, 97, 121]⟩, .int .i64 0, .int .i64 100000, .sl 2 [.int .i64 0, .int .i64 1], .sl 8 [.int .i64 0, .int .i64 1, .int .i64 2, .int .i64 3, .int .i64 4, .int .i64 5, .int .i64 6, .int .i64 7], .int .i64 21600, .int .i64 79200, .int .i64 350, .int .i64 5, .int .i64 8, .int .i64 (5 * s.metres), .int .i64 (8 * s.secs)]
def cCnts (l : List Seg) : List PV := l.flatMap cCnt
@[simp] theorem cCnts_len (l : List Seg) : (cCnts l).length = l.length * 13 := flatMap_len cCnt 13 (fun _ => rfl) l
@[simp] theorem cCnts_drop (l : List Seg) (k : Nat) (h : k < l.length) : ((cCnts l).drop (k * 13)).take 13 = cCnt (nth l k) := flatMap_drop cCnt 13 (fun _ => rfl) l k h
@[simp] theorem cCnts_8 (l : List Seg) (k : Nat) (h : k < l.length) : nthP (cCnts l) (k * 13 + 8) = .int .i64 350 := flatMap_get cCnt 13 (fun _ => rfl) l k 8 h (by omega)
def cntA (l : List Seg) : List AV := (cCnts l).map (.w false false)
@[simp] theorem cntA_len (l : List Seg) : (cntA l).length = l.length * 13 := by simp [cntA]
@[simp] theorem cntA_nil : cntA [] = [] := rfl
theorem cntA_snoc (l : List Seg) (z m s : Int) : cntA l ++ [.w false false (.int .i64 0), .w false false (.str ⟨#[100, 97, 121]⟩), .w false false (.int .i64 0), .w false false (.int .i64 100000), .w false false (.sl 2 [.int .i64 0, .int .i64 1]), .w false false (.sl 8 [.int .i64 0, .int .i64 1, .int .i64 2, .int .i64 3, .int .i64 4, .int .i64 5, .int .i64 6, .int .i64 7]), .w false false (.int .i64 21600), .w false false (.int .i64 79200), .w false false (.int .i64 350), .w false false (.int .i64 5), .w false false (.int .i64 8), .w false false (.int .i64 (5 * m)), .w false false (.int .i64 (8 * s))] = cntA (l ++ [⟨z, m, s⟩]) := by simp [cntA, cCnts, cCnt]
@[simp] theorem cntA_lt (l : List Seg) (n : Nat) : AV.lt.ltL n (cntA l) = true := ltL_map n false false _
@[simp] theorem cntA_self {D : List Nat} {h : Heap} {n n' : Nat} (l : List Seg) : cellsLe D h n n' (cntA l) (cntA l) = True := eq_true (cellsLe_w false false _)
@[simp high] theorem cntA_frz (h : Heap) (d : Nat) (l : List Seg) : (cntA l).mapM (frz h d) = some (cCnts l) := mapM_frz h d false false _
set_option maxHeartbeats 4000000 in
theorem count_c (s : Seg) (ok : SegOk s) (t : Int) (h1 : 21600 ≤ t) (h2 : t < 79200) : RealCall Tryz.prog 45 [.agg cCity, .agg (cSeg s), .agg [.int .i64 0, .int .i64 t]] (.tup [.agg (cCnt s), .int .i64 0]) false := by
  obtain ⟨z, m, sc⟩ := s
  have c1 := momentErr_c 0 t
  have c2 := at_rule z t ok.z h1 h2
  have e : (winB 0 0 100000 && winB t 0 86399) = true := by simp [winB]; omega
  rw [e] at c1
  have hm := ok.m
  have hs := ok.s
  dsimp only at hm hs
  clear ok e
  unfold cSeg cCnt cCity cPl at *
  dsimp only
  refine realcall_intro Tryz.func45 (by kernel_rfl) rfl (Nat.le_of_ble_eq_true (by kernel_rfl)) ?_
  simp only [Tryz.results45, Tryz.ntmps45]
  repeat' (first | (with_reducible first | refine awp_seq ?_ | refine awp_blockS ?_ | refine awp_blockC ?_ | refine awp_blockR ?_ | refine awp_skip ?_ | refine awp_ret ?_ | refine awp_exit ?_ | refine awp_region ?_ | refine awp_regionS (id := 6) [0, 1, 2] [3, 4] [[], [.slot 6], [.slot 6]] [[.slot 6], []] mixed (by decide +kernel) ?_ | refine awp_condM ?_ | refine And.intro ?_ ?_ | apply gQ_merge | apply gE_merge | exact EqV_w | exact EqE_w | exact EqV_ptr | exact EqE_ptr | exact EqV_msl | exact EqE_msl | exact EqV_agg | exact EqE_agg | exact EqV_fn | exact EqE_fn | exact EqV_gd | exact EqE_gd | refine gM_splitN ?_ ?_ | refine gM_split ?_ ?_ |  refine condM_splitDN ?_ ?_ | refine condM_splitD ?_ ?_ | refine condM_splitN ?_ ?_ | refine condM_split ?_ ?_ | refine condM_any ?_ ?_ | refine cw (c1) ?_ | refine cw (c2) ?_ | intro _) | (simp [*]) | (refine cw_eq (c1) ?_ ?_; (· (simp [*]; done))) | (refine cw_eq (c2) ?_ ?_; (· (simp [*]; done))))
  all_goals try first | exact inI64 (by omega) (by omega) | omega
abbrev cTripT (l : List Seg) : List PV := [.int .i64 0, .int .i64 36000, .bool false, .sl 1 [.int .i64 0], .sl l.length (cSegs l)]
set_option maxHeartbeats 8000000 in
theorem checkTrip_c (l : List Seg) (ok : SegsOk l) : RealCall Tryz.prog 44 [.agg cCity, .agg (cTripT l)] (.tup [.int .i64 0, .int .i64 0]) true := by
  have c1 := tOpen_c
  have c2 := momentErr_c 0 36000
  have c3 := fun z : Int => hasZone_c z
  have hn := ok.n
  have ko := keep ok.seg
  have h1 : (0 : Int) < (l.length : Int) := by omega
  have h2 : (l.length : Int) ≤ 60 := by omega
  have h3 : l.length ≤ 60 := by omega
  have h4 : 0 < l.length := by omega
  have h5 : l ≠ [] := fun e => by rw [e] at h4; exact absurd h4 (by decide)
  have kn := keep hn
  clear ok hn
  unfold cCity cTripT at *
  refine realcall_intro Tryz.func44 (by kernel_rfl) rfl (Nat.le_of_ble_eq_true (by kernel_rfl)) ?_
  simp only [Tryz.results44, Tryz.ntmps44]
  repeat' (first | (with_reducible first | refine awp_seq ?_ | refine awp_blockS ?_ | refine awp_blockC ?_ | refine awp_blockR ?_ | refine awp_skip ?_ | refine awp_ret ?_ | refine awp_exit ?_ | refine awp_region ?_ | refine awp_regionD (id := 2) 14 mixed (by decide +kernel) ?_ | refine awp_regionD (id := 11) 13 mixed (by decide +kernel) ?_ | refine awp_condM ?_ | refine And.intro ?_ ?_ | apply gQ_merge | apply gE_merge | exact EqV_w | exact EqE_w | exact EqV_ptr | exact EqE_ptr | exact EqV_msl | exact EqE_msl | exact EqV_agg | exact EqE_agg | exact EqV_fn | exact EqE_fn | exact EqV_gd | exact EqE_gd | refine gM_splitN ?_ ?_ | refine gM_split ?_ ?_ |  refine condM_splitDN ?_ ?_ | refine condM_splitD ?_ ?_ | refine condM_splitN ?_ ?_ | refine condM_split ?_ ?_ | refine condM_any ?_ ?_ | refine cw (c1) ?_ | refine cw (c2) ?_ | refine cw (tWithin_c _ _ _) ?_ | refine cw (tUnless_c _ _) ?_ | refine cw (tFirst3_c _ _ _) ?_ | refine cw (tFirst2_c _ _) ?_ | intro _) | (simp [*, winB, firstS, h1, h2, h3, h4, h5]) | (refine cw_eq (c1) ?_ ?_; (· (simp [*]; done))) | (refine cw_eq (c2) ?_ ?_; (· (simp [*]; done))) | (refine cw_eq (tWithin_c _ _ _) ?_ ?_; (· (simp [*]; done))) | (refine cw_eq (tUnless_c _ _) ?_ ?_; (· (simp [*]; done))) | (refine cw_eq (tFirst3_c _ _ _) ?_ ?_; (· (simp [*]; done))) | (refine cw_eq (tFirst2_c _ _) ?_ ?_; (· (simp [*]; done))))
  refine awp_for3 (fun (k : Nat) => k ≤ 1) [2, 3, 38, 39] (fun (k : Nat) => [(40, .w false false (.int .i64 k))]) [0, 1] (fun (k : Nat) => []) (fun (k : Nat) => 1 - k) (fun (_u : Unit) => True) [2, 3] (fun (_u : Unit) => []) [0, 1] (fun (_u : Unit) => []) (0) (Nat.zero_le _) (by simp) (by simp) (fun k hk => ?_) (fun _u hf => ?_)
  · rcases (show k = 0 ∨ k = 1 by omega) with rfl | rfl
    · repeat' (first | (with_reducible first | refine awp_seq ?_ | refine awp_blockS ?_ | refine awp_blockC ?_ | refine awp_blockR ?_ | refine awp_skip ?_ | refine awp_ret ?_ | refine awp_exit ?_ | refine awp_region ?_ | refine awp_regionD (id := 2) 14 mixed (by decide +kernel) ?_ | refine awp_regionD (id := 11) 13 mixed (by decide +kernel) ?_ | refine awp_condM ?_ | refine And.intro ?_ ?_ | apply gQ_merge | apply gE_merge | exact EqV_w | exact EqE_w | exact EqV_ptr | exact EqE_ptr | exact EqV_msl | exact EqE_msl | exact EqV_agg | exact EqE_agg | exact EqV_fn | exact EqE_fn | exact EqV_gd | exact EqE_gd | refine gM_splitN ?_ ?_ | refine gM_split ?_ ?_ |  refine condM_splitDN ?_ ?_ | refine condM_splitD ?_ ?_ | refine condM_splitN ?_ ?_ | refine condM_split ?_ ?_ | refine condM_any ?_ ?_ | refine cw (tWithin_c _ _ _) ?_ | intro _) | (simp [*, winB]) | (refine cw_eq (tWithin_c _ _ _) ?_ ?_; (· (simp [*]; done))))
      all_goals try first | exact inI64 (by omega) (by omega) | omega
      all_goals (refine loopK_normal _ _ _ _ _ 1 _ ?_ (by first | omega | (dsimp only; omega) | (simp; omega)) ?_; (· omega); (refine le_gen [] ?_ ?_ <;> first | trivial | (simp [*]; done)))
    · repeat' (first | (with_reducible first | refine awp_seq ?_ | refine awp_blockS ?_ | refine awp_blockC ?_ | refine awp_blockR ?_ | refine awp_skip ?_ | refine awp_ret ?_ | refine awp_exit ?_ | refine awp_region ?_ | refine awp_regionD (id := 2) 14 mixed (by decide +kernel) ?_ | refine awp_regionD (id := 11) 13 mixed (by decide +kernel) ?_ | refine awp_condM ?_ | refine And.intro ?_ ?_ | apply gQ_merge | apply gE_merge | exact EqV_w | exact EqE_w | exact EqV_ptr | exact EqE_ptr | exact EqV_msl | exact EqE_msl | exact EqV_agg | exact EqE_agg | exact EqV_fn | exact EqE_fn | exact EqV_gd | exact EqE_gd | refine gM_splitN ?_ ?_ | refine gM_split ?_ ?_ |  refine condM_splitDN ?_ ?_ | refine condM_splitD ?_ ?_ | refine condM_splitN ?_ ?_ | refine condM_split ?_ ?_ | refine condM_any ?_ ?_ | intro _) | (simp [*]))
      all_goals (refine finW_intro () ?_ ?_; (· trivial); (refine le_gen [] ?_ ?_ <;> first | trivial | (simp [*]; done)))
  · repeat' (first | (with_reducible first | refine awp_seq ?_ | refine awp_blockS ?_ | refine awp_blockC ?_ | refine awp_blockR ?_ | refine awp_skip ?_ | refine awp_ret ?_ | refine awp_exit ?_ | refine awp_region ?_ | refine awp_regionD (id := 2) 14 mixed (by decide +kernel) ?_ | refine awp_regionD (id := 11) 13 mixed (by decide +kernel) ?_ | refine awp_condM ?_ | refine And.intro ?_ ?_ | apply gQ_merge | apply gE_merge | exact EqV_w | exact EqE_w | exact EqV_ptr | exact EqE_ptr | exact EqV_msl | exact EqE_msl | exact EqV_agg | exact EqE_agg | exact EqV_fn | exact EqE_fn | exact EqV_gd | exact EqE_gd | refine gM_splitN ?_ ?_ | refine gM_split ?_ ?_ |  refine condM_splitDN ?_ ?_ | refine condM_splitD ?_ ?_ | refine condM_splitN ?_ ?_ | refine condM_split ?_ ?_ | refine condM_any ?_ ?_ | refine cw (tUnless_c _ _) ?_ | refine cw (tFirst2_c _ _) ?_ | intro _) | (simp [*, winB, firstS, h1, h2, h3, h4, h5]) | (refine cw_eq (tUnless_c _ _) ?_ ?_; (· (simp [*]; done))) | (refine cw_eq (tFirst2_c _ _) ?_ ?_; (· (simp [*]; done))))
    refine awp_for3 (fun (k : Nat) => k ≤ l.length) [2, 66, 67] (fun (k : Nat) => [(68, .w false false (.int .i64 k))]) [0] (fun (k : Nat) => []) (fun (k : Nat) => l.length - k) (fun (_u : Unit) => True) [] (fun (_u : Unit) => []) [] (fun (_u : Unit) => []) (0) (Nat.zero_le _) (by simp) (by simp) (fun k hk => ?_) (fun _u hf => ?_)
    · by_cases hlt : k < l.length
      · have hs := (show ∀ k, k < l.length → SegOk (nth l k) from ko) k hlt
        generalize hsg : nth l k = s at *
        obtain ⟨z, m, sc⟩ := s
        have hz := hs.z
        have hm := hs.m
        have hsc := hs.s
        dsimp only at hz hm hsc
        have e1 : winB z 0 1 = true := by unfold winB; rcases hz with rfl | rfl <;> rfl
        have e2 : winB m 0 100000 = true := by simp [winB]; omega
        have e3 : winB sc 1 36000 = true := by simp [winB]; omega
        have d1 := tWithin_c m 0 100000
        have d2 := tWithin_c sc 1 36000
        have d3 := c3 z
        rw [e2] at d1
        rw [e3] at d2
        rw [e1] at d3
        clear c1 c2 c3 hz hm hsc hs e1 e2 e3 ko
        repeat' (first | (with_reducible first | refine awp_seq ?_ | refine awp_blockS ?_ | refine awp_blockC ?_ | refine awp_blockR ?_ | refine awp_skip ?_ | refine awp_ret ?_ | refine awp_exit ?_ | refine awp_region ?_ | refine awp_regionD (id := 2) 14 mixed (by decide +kernel) ?_ | refine awp_regionD (id := 11) 13 mixed (by decide +kernel) ?_ | refine awp_condM ?_ | refine And.intro ?_ ?_ | apply gQ_merge | apply gE_merge | exact EqV_w | exact EqE_w | exact EqV_ptr | exact EqE_ptr | exact EqV_msl | exact EqE_msl | exact EqV_agg | exact EqE_agg | exact EqV_fn | exact EqE_fn | exact EqV_gd | exact EqE_gd | refine gM_splitN ?_ ?_ | refine gM_split ?_ ?_ |  refine condM_splitDN ?_ ?_ | refine condM_splitD ?_ ?_ | refine condM_splitN ?_ ?_ | refine condM_split ?_ ?_ | refine condM_any ?_ ?_ | refine cw (d1) ?_ | refine cw (d2) ?_ | refine cw (d3) ?_ | refine cw (tUnless_c _ _) ?_ | refine cw (tFirst2_c _ _) ?_ | intro _) | (simp [*, hlt, cSeg, firstS]) | (refine cw_eq (d1) ?_ ?_; (· (simp [*]; done))) | (refine cw_eq (d2) ?_ ?_; (· (simp [*]; done))) | (refine cw_eq (d3) ?_ ?_; (· (simp [*]; done))) | (refine cw_eq (tUnless_c _ _) ?_ ?_; (· (simp [*]; done))) | (refine cw_eq (tFirst2_c _ _) ?_ ?_; (· (simp [*]; done))))
        all_goals try first | exact inI64 (by omega) (by omega) | omega
        all_goals (refine loopK_normal _ _ _ _ _ (k + 1) _ ?_ (by first | omega | (dsimp only; omega) | (simp; omega)) ?_; (· omega); (refine le_gen [] ?_ ?_ <;> first | trivial | (simp [*]; done)))
      · have hke : k = l.length := by omega
        subst hke
        repeat' (first | (with_reducible first | refine awp_seq ?_ | refine awp_blockS ?_ | refine awp_blockC ?_ | refine awp_blockR ?_ | refine awp_skip ?_ | refine awp_ret ?_ | refine awp_exit ?_ | refine awp_region ?_ | refine awp_regionD (id := 2) 14 mixed (by decide +kernel) ?_ | refine awp_regionD (id := 11) 13 mixed (by decide +kernel) ?_ | refine awp_condM ?_ | refine And.intro ?_ ?_ | apply gQ_merge | apply gE_merge | exact EqV_w | exact EqE_w | exact EqV_ptr | exact EqE_ptr | exact EqV_msl | exact EqE_msl | exact EqV_agg | exact EqE_agg | exact EqV_fn | exact EqE_fn | exact EqV_gd | exact EqE_gd | refine gM_splitN ?_ ?_ | refine gM_split ?_ ?_ |  refine condM_splitDN ?_ ?_ | refine condM_splitD ?_ ?_ | refine condM_splitN ?_ ?_ | refine condM_split ?_ ?_ | refine condM_any ?_ ?_ | intro _) | (simp [*]))
        all_goals (refine finW_intro () ?_ ?_; (· trivial); (refine le_gen [] ?_ ?_ <;> first | trivial | (simp [*]; done)))
    · repeat' (first | (with_reducible first | refine awp_seq ?_ | refine awp_blockS ?_ | refine awp_blockC ?_ | refine awp_blockR ?_ | refine awp_skip ?_ | refine awp_ret ?_ | refine awp_exit ?_ | refine awp_region ?_ | refine awp_regionD (id := 2) 14 mixed (by decide +kernel) ?_ | refine awp_regionD (id := 11) 13 mixed (by decide +kernel) ?_ | refine awp_condM ?_ | refine And.intro ?_ ?_ | apply gQ_merge | apply gE_merge | exact EqV_w | exact EqE_w | exact EqV_ptr | exact EqE_ptr | exact EqV_msl | exact EqE_msl | exact EqV_agg | exact EqE_agg | exact EqV_fn | exact EqE_fn | exact EqV_gd | exact EqE_gd | refine gM_splitN ?_ ?_ | refine gM_split ?_ ?_ |  refine condM_splitDN ?_ ?_ | refine condM_splitD ?_ ?_ | refine condM_splitN ?_ ?_ | refine condM_split ?_ ?_ | refine condM_any ?_ ?_ | intro _) | (simp [*]))
end Go.Proofs.YtlcimflkjfbaoaaGreat
namespace Go.Proofs.YtlcimflkjfbaoaaGreat
open Go Go.Fi
set_option maxRecDepth 20000

/-! ### the ride -/
def cRide (l : List Seg) : List PV := [.str ⟨#[99, 105, 116, 121]⟩, .int .i64 1000, .int .i64 10, .sl 2 [.str ⟨#[116, 111, 119, 110]⟩, .str ⟨#[112, 111, 114, 116]⟩], .sl 1 [.int .i64 7],
  .sl 2 [.str ⟨#[100, 97, 121]⟩, .int .i64 0, .int .i64 100000, .sl 2 [.int .i64 0, .int .i64 1], .sl 8 [.int .i64 0, .int .i64 1, .int .i64 2, .int .i64 3, .int .i64 4, .int .i64 5, .int .i64 6, .int .i64 7], .int .i64 21600, .int .i64 79200, .int .i64 350, .int .i64 5, .int .i64 8,
    .str ⟨#[110, 105, 103, 104, 116]⟩, .int .i64 0, .int .i64 100000, .sl 2 [.int .i64 0, .int .i64 1], .sl 8 [.int .i64 0, .int .i64 1, .int .i64 2, .int .i64 3, .int .i64 4, .int .i64 5, .int .i64 6, .int .i64 7], .int .i64 79200, .int .i64 21600, .int .i64 450, .int .i64 6, .int .i64 8],
  .sl 1 [.str ⟨#[98, 97, 103]⟩, .int .i64 100], .sl 1 [.int .i64 0, .int .i64 1, .int .i64 4000],
  .int .i64 0, .int .i64 36000, .bool false, .sl 1 [.int .i64 0], .sl l.length (cSegs l), .sl l.length (cCnts l)]
/-- the ride's cells while its segments are counted: k of them lie in place 5 -/
def rideA (l : List Seg) (k : Nat) : List AV := [.w false false (.str ⟨#[99, 105, 116, 121]⟩), .w false false (.int .i64 1000), .w false false (.int .i64 10), .w false false (.sl 2 [.str ⟨#[116, 111, 119, 110]⟩, .str ⟨#[112, 111, 114, 116]⟩]), .w false false (.sl 1 [.int .i64 7]),
  .w false false (.sl 2 [.str ⟨#[100, 97, 121]⟩, .int .i64 0, .int .i64 100000, .sl 2 [.int .i64 0, .int .i64 1], .sl 8 [.int .i64 0, .int .i64 1, .int .i64 2, .int .i64 3, .int .i64 4, .int .i64 5, .int .i64 6, .int .i64 7], .int .i64 21600, .int .i64 79200, .int .i64 350, .int .i64 5, .int .i64 8,
    .str ⟨#[110, 105, 103, 104, 116]⟩, .int .i64 0, .int .i64 100000, .sl 2 [.int .i64 0, .int .i64 1], .sl 8 [.int .i64 0, .int .i64 1, .int .i64 2, .int .i64 3, .int .i64 4, .int .i64 5, .int .i64 6, .int .i64 7], .int .i64 79200, .int .i64 21600, .int .i64 450, .int .i64 6, .int .i64 8]),
  .w false false (.sl 1 [.str ⟨#[98, 97, 103]⟩, .int .i64 100]), .w false false (.sl 1 [.int .i64 0, .int .i64 1, .int .i64 4000]),
  .w false false (.int .i64 0), .w false false (.int .i64 36000), .w false false (.bool false), .w false false (.sl 1 [.int .i64 0]), .w false false (.sl l.length (cSegs l)), .msl 5 (k * 13) 13 0 k]
theorem secsS_snoc (L : List Seg) (s : Seg) : secsS (L ++ [s]) = secsS L + s.secs := by unfold secsS; simp
set_option maxHeartbeats 16000000 in
theorem openTrip_c (l : List Seg) (ok : SegsOk l) : RealCall Tryz.prog 19 [.agg cCity, .agg (cTripT l)] (.tup [.agg (cRide l), .int .i64 0]) false := by
  have c1 := checkTrip_c l ok
  have hn := keep ok.n
  have ko := keep ok
  clear ok
  unfold cCity cTripT at *
  refine realcall_intro Tryz.func19 (by kernel_rfl) rfl (Nat.le_of_ble_eq_true (by kernel_rfl)) ?_
  simp only [Tryz.results19, Tryz.ntmps19]
  repeat' (first | (with_reducible first | refine awp_seq ?_ | refine awp_blockS ?_ | refine awp_blockC ?_ | refine awp_blockR ?_ | refine awp_skip ?_ | refine awp_ret ?_ | refine awp_exit ?_ | refine awp_region ?_ | refine awp_condM ?_ | refine And.intro ?_ ?_ | apply gQ_merge | apply gE_merge | exact EqV_w | exact EqE_w | exact EqV_ptr | exact EqE_ptr | exact EqV_msl | exact EqE_msl | exact EqV_agg | exact EqE_agg | exact EqV_fn | exact EqE_fn | exact EqV_gd | exact EqE_gd | refine gM_splitN ?_ ?_ | refine gM_split ?_ ?_ |  refine condM_splitDN ?_ ?_ | refine condM_splitD ?_ ?_ | refine condM_splitN ?_ ?_ | refine condM_split ?_ ?_ | refine condM_any ?_ ?_ | refine cw (c1) ?_ | intro _) | (simp [*]) | (refine cw_eq (c1) ?_ ?_; (· (simp [*]; done))))
  clear c1
  refine awp_for4 6 (fun (k : Nat) => k ≤ l.length) [4, 8, 9, 31, 32] (fun (k : Nat) => [(33, .w false false (.int .i64 k))]) [2] (fun (k : Nat) => [(3, rideA l k), (4, [.w false false (.int .i64 0), .w false false (.int .i64 (36000 + secsS (l.take k)))]), (5, cntA (l.take k))]) (fun (k : Nat) => l.length - k) (fun (_u : Unit) => True) [4, 8] (fun (_u : Unit) => []) [2] (fun (_u : Unit) => [(3, rideA l l.length), (5, cntA l)]) (0) (Nat.zero_le _) (le_gen [] (by simp [rideA, secsS]) (by simp [rideA, secsS])) (fun k hk => ?_) (fun _u hf => ?_)
  · by_cases hlt : k < l.length
    · have hb := secs_bd ko k hk
      have hs := (show SegsOk l from ko).seg k hlt
      have hsu := secsS_succ l k hlt
      have htk := take_succ_nth l k hlt
      have hll := take_len l k hk
      generalize hsg : nth l k = s at *
      generalize htl : l.take k = L at *
      have hn2 := (show 1 ≤ l.length ∧ l.length ≤ 6 from hn)
      have hz := hs.z
      have hm := hs.m
      have hsc := hs.s
      have c2 := count_c s hs (36000 + secsS L) (by omega) (by omega)
      have c3 := later_c 0 (36000 + secsS L) s.secs (by omega) (by omega) (by omega) (by omega)
      obtain ⟨z, m, sc⟩ := s
      dsimp only at hz hm hsc hsu c3
      have ks := keep hsu
      have kt := keep htk
      have e1 : 36000 + secsS L + sc = 36000 + (secsS L + sc) := by omega
      have hkb : k < 100 := by omega
      have hcn := cntA_snoc L z m sc
      clear hsu htk hs hb hn2 ko hn hz hm
      unfold cSeg cCnt cCity rideA at *
      dsimp only at c2
      repeat' (first | (with_reducible first | refine awp_seq ?_ | refine awp_blockS ?_ | refine awp_blockC ?_ | refine awp_blockR ?_ | refine awp_skip ?_ | refine awp_ret ?_ | refine awp_exit ?_ | refine awp_region ?_ | refine awp_condM ?_ | refine And.intro ?_ ?_ | apply gQ_merge | apply gE_merge | exact EqV_w | exact EqE_w | exact EqV_ptr | exact EqE_ptr | exact EqV_msl | exact EqE_msl | exact EqV_agg | exact EqE_agg | exact EqV_fn | exact EqE_fn | exact EqV_gd | exact EqE_gd | refine gM_splitN ?_ ?_ | refine gM_split ?_ ?_ |  refine condM_splitDN ?_ ?_ | refine condM_splitD ?_ ?_ | refine condM_splitN ?_ ?_ | refine condM_split ?_ ?_ | refine condM_any ?_ ?_ | refine cw (c2) ?_ | refine cw (c3) ?_ | intro _) | (simp [*, hlt, cSeg]) | (refine cw_eq (c2) ?_ ?_; (· (simp [*]; done))) | (refine cw_eq (c3) ?_ ?_; (· (simp [*]; done))))
      all_goals try first | exact inI64 (by omega) (by omega) | omega
      all_goals (refine loopK_normal _ _ _ _ _ (k + 1) _ ?_ (by first | omega | (dsimp only; omega) | (simp; omega)) ?_; (· omega); (refine le_gen [] ?_ ?_ <;> first | trivial | (simp [*, (show l.take (k + 1) = _ from kt), secsS_snoc, e1, Nat.add_mul]; done)))
    · have hke : k = l.length := by omega
      subst hke
      unfold rideA
      repeat' (first | (with_reducible first | refine awp_seq ?_ | refine awp_blockS ?_ | refine awp_blockC ?_ | refine awp_blockR ?_ | refine awp_skip ?_ | refine awp_ret ?_ | refine awp_exit ?_ | refine awp_region ?_ | refine awp_condM ?_ | refine And.intro ?_ ?_ | apply gQ_merge | apply gE_merge | exact EqV_w | exact EqE_w | exact EqV_ptr | exact EqE_ptr | exact EqV_msl | exact EqE_msl | exact EqV_agg | exact EqE_agg | exact EqV_fn | exact EqE_fn | exact EqV_gd | exact EqE_gd | refine gM_splitN ?_ ?_ | refine gM_split ?_ ?_ |  refine condM_splitDN ?_ ?_ | refine condM_splitD ?_ ?_ | refine condM_splitN ?_ ?_ | refine condM_split ?_ ?_ | refine condM_any ?_ ?_ | intro _) | (simp [*]))
      all_goals (refine finW_intro () ?_ ?_; (· trivial); (refine le_gen [] ?_ ?_ <;> first | trivial | (simp [*, List.take_length]; done)))
  · unfold rideA cRide
    repeat' (first | (with_reducible first | refine awp_seq ?_ | refine awp_blockS ?_ | refine awp_blockC ?_ | refine awp_blockR ?_ | refine awp_skip ?_ | refine awp_ret ?_ | refine awp_exit ?_ | refine awp_region ?_ | refine awp_condM ?_ | refine And.intro ?_ ?_ | apply gQ_merge | apply gE_merge | exact EqV_w | exact EqE_w | exact EqV_ptr | exact EqE_ptr | exact EqV_msl | exact EqE_msl | exact EqV_agg | exact EqE_agg | exact EqV_fn | exact EqE_fn | exact EqV_gd | exact EqE_gd | refine gM_splitN ?_ ?_ | refine gM_split ?_ ?_ |  refine condM_splitDN ?_ ?_ | refine condM_splitD ?_ ?_ | refine condM_splitN ?_ ?_ | refine condM_split ?_ ?_ | refine condM_any ?_ ?_ | intro _) | (simp [*]))
end Go.Proofs.YtlcimflkjfbaoaaGreat
namespace Go.Proofs.YtlcimflkjfbaoaaGreat
open Go Go.Fi
set_option maxRecDepth 20000

/-! ### the fare -/
def sumP (p : Seg → Int) (l : List Seg) : Int := (l.map p).sum
@[simp] theorem sumP_nil (p : Seg → Int) : sumP p [] = 0 := rfl
theorem sumP_succ (p : Seg → Int) (l : List Seg) (k : Nat) (h : k < l.length) : sumP p (l.take (k + 1)) = sumP p (l.take k) + p (nth l k) := by
  unfold sumP
  rw [take_succ_nth l k h]; simp
theorem sumP_bd {p : Seg → Int} {l : List Seg} (h : ∀ k, k < l.length → 0 ≤ p (nth l k) ∧ p (nth l k) ≤ 300000) : ∀ k : Nat, k ≤ l.length → 0 ≤ sumP p (l.take k) ∧ sumP p (l.take k) ≤ 300000 * (k : Int)
  | 0, _ => by simp [sumP]
  | k + 1, hk => by
    have ih := sumP_bd h k (by omega)
    have := h k (by omega)
    rw [sumP_succ p l k (by omega)]
    omega
/-- what is driven costs this -/
def driven (p : Seg → Int) (l : List Seg) : Int := (sumP p l).tdiv 1000 * 10
theorem driven_bd {p : Seg → Int} {l : List Seg} (hn : l.length ≤ 6) (h : ∀ k, k < l.length → 0 ≤ p (nth l k) ∧ p (nth l k) ≤ 300000) : 0 ≤ driven p l ∧ driven p l ≤ 18000 := by
  have := sumP_bd h l.length (Nat.le_refl _)
  rw [List.take_length] at this
  unfold driven
  have h1 : (sumP p l).tdiv 1000 = sumP p l / 1000 := Int.tdiv_eq_ediv_of_nonneg this.1
  rw [h1]
  omega
def cFare (p : Seg → Int) (l : List Seg) : List PV := [.int .i64 350, .int .i64 (driven p l), .int .i64 0, .int .i64 (350 + driven p l)]
set_option maxHeartbeats 16000000 in
theorem fare_c (l : List Seg) (ok : SegsOk l) (g : FuncId) (p : Seg → Int) (hg : ∀ s, SegOk s → RealCall Tryz.prog g [.agg (cCnt s)] (.int .i64 (p s)) true) (hp : ∀ k, k < l.length → 0 ≤ p (nth l k) ∧ p (nth l k) ≤ 300000) :
    RealCall Tryz.prog 20 [.agg (cRide l), .fn g []] (.tup [.agg (cFare p l), .int .i64 0]) true := by
  have hn := ok.n
  have hbd := sumP_bd hp
  have hdb := driven_bd hn.2 hp
  have kb := keep hbd
  have kn := keep hn
  have kd := keep hdb
  have kg := keep hg
  have ko := keep ok
  have kp := keep hp
  have h8 : nthP (cCnts l) 8 = .int .i64 350 := cCnts_8 l 0 (by omega)
  have h9 : 0 < l.length := by omega
  clear hn hbd hdb hg ok hp
  unfold cRide cFare
  refine realcall_intro Tryz.func20 (by kernel_rfl) rfl (Nat.le_of_ble_eq_true (by kernel_rfl)) ?_
  simp only [Tryz.results20, Tryz.ntmps20]
  repeat' (first | (with_reducible first | refine awp_seq ?_ | refine awp_blockS ?_ | refine awp_blockC ?_ | refine awp_blockR ?_ | refine awp_skip ?_ | refine awp_ret ?_ | refine awp_exit ?_ | refine awp_region ?_ | refine awp_regionD (id := 5) 14 mixed (by decide +kernel) ?_ | refine awp_regionS (id := 18) [0, 1, 2, 3, 4, 5, 6, 7, 8, 9, 10, 11, 12, 13, 14, 15, 16, 17] [18, 19, 20] [[], [], [], [], [], [], [.slot 6], [.slot 6], [.slot 6], [.slot 6], [.slot 6], [.slot 6], [.slot 6], [.slot 6], [.slot 6], [.slot 6], [.slot 6], []] [[.slot 6], [], [.slot 6]] mixed (by decide +kernel) ?_ | refine awp_condM ?_ | refine And.intro ?_ ?_ | apply gQ_merge | apply gE_merge | exact EqV_w | exact EqE_w | exact EqV_ptr | exact EqE_ptr | exact EqV_msl | exact EqE_msl | exact EqV_agg | exact EqE_agg | exact EqV_fn | exact EqE_fn | exact EqV_gd | exact EqE_gd | refine gM_splitN ?_ ?_ | refine gM_split ?_ ?_ |  refine condM_splitDN ?_ ?_ | refine condM_splitD ?_ ?_ | refine condM_splitN ?_ ?_ | refine condM_split ?_ ?_ | refine condM_any ?_ ?_ | intro _) | (simp [*]))
  refine awp_for3 (fun (k : Nat) => k ≤ 1) [1, 2, 4, 6, 16, 17] (fun (k : Nat) => [(18, .w false false (.int .i64 k))]) [0, 1, 2] (fun (k : Nat) => []) (fun (k : Nat) => 1 - k) (fun (_u : Unit) => True) [1, 2, 4, 6] (fun (_u : Unit) => []) [0, 1, 2] (fun (_u : Unit) => []) (0) (Nat.zero_le _) (by simp) (by simp) (fun k hk => ?_) (fun _u hf => ?_)
  · rcases (show k = 0 ∨ k = 1 by omega) with rfl | rfl
    · repeat' (first | (with_reducible first | refine awp_seq ?_ | refine awp_blockS ?_ | refine awp_blockC ?_ | refine awp_blockR ?_ | refine awp_skip ?_ | refine awp_ret ?_ | refine awp_exit ?_ | refine awp_region ?_ | refine awp_regionD (id := 5) 14 mixed (by decide +kernel) ?_ | refine awp_regionS (id := 18) [0, 1, 2, 3, 4, 5, 6, 7, 8, 9, 10, 11, 12, 13, 14, 15, 16, 17] [18, 19, 20] [[], [], [], [], [], [], [.slot 6], [.slot 6], [.slot 6], [.slot 6], [.slot 6], [.slot 6], [.slot 6], [.slot 6], [.slot 6], [.slot 6], [.slot 6], []] [[.slot 6], [], [.slot 6]] mixed (by decide +kernel) ?_ | refine awp_condM ?_ | refine And.intro ?_ ?_ | apply gQ_merge | apply gE_merge | exact EqV_w | exact EqE_w | exact EqV_ptr | exact EqE_ptr | exact EqV_msl | exact EqE_msl | exact EqV_agg | exact EqE_agg | exact EqV_fn | exact EqE_fn | exact EqV_gd | exact EqE_gd | refine gM_splitN ?_ ?_ | refine gM_split ?_ ?_ |  refine condM_splitDN ?_ ?_ | refine condM_splitD ?_ ?_ | refine condM_splitN ?_ ?_ | refine condM_split ?_ ?_ | refine condM_any ?_ ?_ | intro _) | (simp [*]))
      all_goals try first | exact inI64 (by omega) (by omega) | omega
      all_goals (refine loopK_normal _ _ _ _ _ 1 _ ?_ (by first | omega | (dsimp only; omega) | (simp; omega)) ?_; (· omega); (refine le_gen [] ?_ ?_ <;> first | trivial | (simp [*]; done)))
    · repeat' (first | (with_reducible first | refine awp_seq ?_ | refine awp_blockS ?_ | refine awp_blockC ?_ | refine awp_blockR ?_ | refine awp_skip ?_ | refine awp_ret ?_ | refine awp_exit ?_ | refine awp_region ?_ | refine awp_regionD (id := 5) 14 mixed (by decide +kernel) ?_ | refine awp_regionS (id := 18) [0, 1, 2, 3, 4, 5, 6, 7, 8, 9, 10, 11, 12, 13, 14, 15, 16, 17] [18, 19, 20] [[], [], [], [], [], [], [.slot 6], [.slot 6], [.slot 6], [.slot 6], [.slot 6], [.slot 6], [.slot 6], [.slot 6], [.slot 6], [.slot 6], [.slot 6], []] [[.slot 6], [], [.slot 6]] mixed (by decide +kernel) ?_ | refine awp_condM ?_ | refine And.intro ?_ ?_ | apply gQ_merge | apply gE_merge | exact EqV_w | exact EqE_w | exact EqV_ptr | exact EqE_ptr | exact EqV_msl | exact EqE_msl | exact EqV_agg | exact EqE_agg | exact EqV_fn | exact EqE_fn | exact EqV_gd | exact EqE_gd | refine gM_splitN ?_ ?_ | refine gM_split ?_ ?_ |  refine condM_splitDN ?_ ?_ | refine condM_splitD ?_ ?_ | refine condM_splitN ?_ ?_ | refine condM_split ?_ ?_ | refine condM_any ?_ ?_ | intro _) | (simp [*]))
      all_goals (refine finW_intro () ?_ ?_; (· trivial); (refine le_gen [] ?_ ?_ <;> first | trivial | (simp [*]; done)))
  · repeat' (first | (with_reducible first | refine awp_seq ?_ | refine awp_blockS ?_ | refine awp_blockC ?_ | refine awp_blockR ?_ | refine awp_skip ?_ | refine awp_ret ?_ | refine awp_exit ?_ | refine awp_region ?_ | refine awp_regionD (id := 5) 14 mixed (by decide +kernel) ?_ | refine awp_regionS (id := 18) [0, 1, 2, 3, 4, 5, 6, 7, 8, 9, 10, 11, 12, 13, 14, 15, 16, 17] [18, 19, 20] [[], [], [], [], [], [], [.slot 6], [.slot 6], [.slot 6], [.slot 6], [.slot 6], [.slot 6], [.slot 6], [.slot 6], [.slot 6], [.slot 6], [.slot 6], []] [[.slot 6], [], [.slot 6]] mixed (by decide +kernel) ?_ | refine awp_condM ?_ | refine And.intro ?_ ?_ | apply gQ_merge | apply gE_merge | exact EqV_w | exact EqE_w | exact EqV_ptr | exact EqE_ptr | exact EqV_msl | exact EqE_msl | exact EqV_agg | exact EqE_agg | exact EqV_fn | exact EqE_fn | exact EqV_gd | exact EqE_gd | refine gM_splitN ?_ ?_ | refine gM_split ?_ ?_ |  refine condM_splitDN ?_ ?_ | refine condM_splitD ?_ ?_ | refine condM_splitN ?_ ?_ | refine condM_split ?_ ?_ | refine condM_any ?_ ?_ | intro _) | (simp [*]))
    refine awp_for3 (fun (k : Nat) => k ≤ l.length) [1, 2, 4, 6, 53, 54] (fun (k : Nat) => [(55, .w false false (.int .i64 k)), (11, .w false false (.int .i64 (sumP p (l.take k))))]) [0, 1, 2] (fun (k : Nat) => []) (fun (k : Nat) => l.length - k) (fun (_u : Unit) => True) [2, 4, 6] (fun (_u : Unit) => [(11, .w false false (.int .i64 (sumP p l)))]) [0, 1, 2] (fun (_u : Unit) => []) (0) (Nat.zero_le _) (by simp) (by simp) (fun k hk => ?_) (fun _u hf => ?_)
    · by_cases hlt : k < l.length
      · have c1 := (show ∀ s, SegOk s → RealCall Tryz.prog g [.agg (cCnt s)] (.int .i64 (p s)) true from kg) (nth l k) ((show SegsOk l from ko).seg k hlt)
        have hb := (show ∀ k : Nat, k ≤ l.length → 0 ≤ sumP p (l.take k) ∧ sumP p (l.take k) ≤ 300000 * (k : Int) from kb) k hk
        have hq := (show ∀ k, k < l.length → 0 ≤ p (nth l k) ∧ p (nth l k) ≤ 300000 from kp) k hlt
        have hn := (show 1 ≤ l.length ∧ l.length ≤ 6 from kn)
        have ks := keep (sumP_succ p l k hlt)
        have hkb : k < 100 := by omega
        have hb1 := hb.1
        have hb2 : sumP p (l.take k) ≤ 3000000 := by omega
        have hq1 := hq.1
        have hq2 := hq.2
        clear kb kn kd kg ko kp h8 hb hq hn h9
        unfold cCnt at c1
        repeat' (first | (with_reducible first | refine awp_seq ?_ | refine awp_blockS ?_ | refine awp_blockC ?_ | refine awp_blockR ?_ | refine awp_skip ?_ | refine awp_ret ?_ | refine awp_exit ?_ | refine awp_region ?_ | refine awp_regionD (id := 5) 14 mixed (by decide +kernel) ?_ | refine awp_regionS (id := 18) [0, 1, 2, 3, 4, 5, 6, 7, 8, 9, 10, 11, 12, 13, 14, 15, 16, 17] [18, 19, 20] [[], [], [], [], [], [], [.slot 6], [.slot 6], [.slot 6], [.slot 6], [.slot 6], [.slot 6], [.slot 6], [.slot 6], [.slot 6], [.slot 6], [.slot 6], []] [[.slot 6], [], [.slot 6]] mixed (by decide +kernel) ?_ | refine awp_condM ?_ | refine And.intro ?_ ?_ | apply gQ_merge | apply gE_merge | exact EqV_w | exact EqE_w | exact EqV_ptr | exact EqE_ptr | exact EqV_msl | exact EqE_msl | exact EqV_agg | exact EqE_agg | exact EqV_fn | exact EqE_fn | exact EqV_gd | exact EqE_gd | refine gM_splitN ?_ ?_ | refine gM_split ?_ ?_ |  refine condM_splitDN ?_ ?_ | refine condM_splitD ?_ ?_ | refine condM_splitN ?_ ?_ | refine condM_split ?_ ?_ | refine condM_any ?_ ?_ | refine cw (c1) ?_ | intro _) | (simp [*, hlt, cCnt]) | (refine cw_eq (c1) ?_ ?_; (· (simp [*]; done))))
        all_goals try first | exact inI64 (by omega) (by omega) | omega
        all_goals (refine loopK_normal _ _ _ _ _ (k + 1) _ ?_ (by first | omega | (dsimp only; omega) | (simp; omega)) ?_; (· omega); (refine le_gen [] ?_ ?_ <;> first | trivial | (simp [*, (show sumP p (l.take (k + 1)) = _ from ks)]; done)))
      · have hke : k = l.length := by omega
        subst hke
        repeat' (first | (with_reducible first | refine awp_seq ?_ | refine awp_blockS ?_ | refine awp_blockC ?_ | refine awp_blockR ?_ | refine awp_skip ?_ | refine awp_ret ?_ | refine awp_exit ?_ | refine awp_region ?_ | refine awp_regionD (id := 5) 14 mixed (by decide +kernel) ?_ | refine awp_regionS (id := 18) [0, 1, 2, 3, 4, 5, 6, 7, 8, 9, 10, 11, 12, 13, 14, 15, 16, 17] [18, 19, 20] [[], [], [], [], [], [], [.slot 6], [.slot 6], [.slot 6], [.slot 6], [.slot 6], [.slot 6], [.slot 6], [.slot 6], [.slot 6], [.slot 6], [.slot 6], []] [[.slot 6], [], [.slot 6]] mixed (by decide +kernel) ?_ | refine awp_condM ?_ | refine And.intro ?_ ?_ | apply gQ_merge | apply gE_merge | exact EqV_w | exact EqE_w | exact EqV_ptr | exact EqE_ptr | exact EqV_msl | exact EqE_msl | exact EqV_agg | exact EqE_agg | exact EqV_fn | exact EqE_fn | exact EqV_gd | exact EqE_gd | refine gM_splitN ?_ ?_ | refine gM_split ?_ ?_ |  refine condM_splitDN ?_ ?_ | refine condM_splitD ?_ ?_ | refine condM_splitN ?_ ?_ | refine condM_split ?_ ?_ | refine condM_any ?_ ?_ | intro _) | (simp [*]))
        all_goals (refine finW_intro () ?_ ?_; (· trivial); (refine le_gen [] ?_ ?_ <;> first | trivial | (simp [*, List.take_length]; done)))
    · have hd := (show 0 ≤ driven p l ∧ driven p l ≤ 18000 from kd)
      have hb := (show ∀ k : Nat, k ≤ l.length → 0 ≤ sumP p (l.take k) ∧ sumP p (l.take k) ≤ 300000 * (k : Int) from kb) l.length (Nat.le_refl _)
      rw [List.take_length] at hb
      have hn := (show 1 ≤ l.length ∧ l.length ≤ 6 from kn)
      unfold driven at *
      obtain ⟨q, hq⟩ : ∃ q, q = (sumP p l).tdiv 1000 := ⟨_, rfl⟩
      rw [← hq] at hd
      have hd1 := hd.1
      have hd2 := hd.2
      have hq2 := hq.symm
      have hgt : ¬ 1000000000 < 350 + q * 10 := by omega
      clear kb kn kd kg ko kp hb hn hd hq hf
      generalize sumP p l = S at *
      repeat' (first | (with_reducible first | refine awp_seq ?_ | refine awp_blockS ?_ | refine awp_blockC ?_ | refine awp_blockR ?_ | refine awp_skip ?_ | refine awp_ret ?_ | refine awp_exit ?_ | refine awp_region ?_ | refine awp_regionD (id := 5) 14 mixed (by decide +kernel) ?_ | refine awp_regionS (id := 18) [0, 1, 2, 3, 4, 5, 6, 7, 8, 9, 10, 11, 12, 13, 14, 15, 16, 17] [18, 19, 20] [[], [], [], [], [], [], [.slot 6], [.slot 6], [.slot 6], [.slot 6], [.slot 6], [.slot 6], [.slot 6], [.slot 6], [.slot 6], [.slot 6], [.slot 6], []] [[.slot 6], [], [.slot 6]] mixed (by decide +kernel) ?_ | refine awp_condM ?_ | refine And.intro ?_ ?_ | apply gQ_merge | apply gE_merge | exact EqV_w | exact EqE_w | exact EqV_ptr | exact EqE_ptr | exact EqV_msl | exact EqE_msl | exact EqV_agg | exact EqE_agg | exact EqV_fn | exact EqE_fn | exact EqV_gd | exact EqE_gd | refine gM_splitN ?_ ?_ | refine gM_split ?_ ?_ |  refine condM_splitDN ?_ ?_ | refine condM_splitD ?_ ?_ | refine condM_splitN ?_ ?_ | refine condM_split ?_ ?_ | refine condM_any ?_ ?_ | intro _) | (simp [*, h8, h9, hq2, hgt]))
      all_goals try first | exact inI64 (by omega) (by omega) | omega
def ptsS (s : Seg) : Int := max (5 * s.metres) (8 * s.secs)
def bothS (s : Seg) : Int := 5 * s.metres + 8 * s.secs
theorem points_c (s : Seg) (ok : SegOk s) : RealCall Tryz.prog 21 [.agg (cCnt s)] (.int .i64 (ptsS s)) true := by
  unfold cCnt ptsS
  refine realcall_intro Tryz.func21 (by kernel_rfl) rfl (Nat.le_of_ble_eq_true (by kernel_rfl)) ?_
  simp only [Tryz.results21, Tryz.ntmps21]
  repeat' (first | (with_reducible first | refine awp_seq ?_ | refine awp_blockS ?_ | refine awp_blockC ?_ | refine awp_blockR ?_ | refine awp_skip ?_ | refine awp_ret ?_ | refine awp_exit ?_ | refine awp_region ?_ | refine awp_condM ?_ | refine And.intro ?_ ?_ | apply gQ_merge | apply gE_merge | exact EqV_w | exact EqE_w | exact EqV_ptr | exact EqE_ptr | exact EqV_msl | exact EqE_msl | exact EqV_agg | exact EqE_agg | exact EqV_fn | exact EqE_fn | exact EqV_gd | exact EqE_gd | refine gM_splitN ?_ ?_ | refine gM_split ?_ ?_ |  refine condM_splitDN ?_ ?_ | refine condM_splitD ?_ ?_ | refine condM_splitN ?_ ?_ | refine condM_split ?_ ?_ | refine condM_any ?_ ?_ | intro _) | (simp [*]))
  all_goals first | omega | skip
theorem both_c (s : Seg) (ok : SegOk s) : RealCall Tryz.prog 48 [.agg (cCnt s)] (.int .i64 (bothS s)) true := by
  have hm := ok.m
  have hs := ok.s
  unfold cCnt bothS
  refine realcall_intro Tryz.func48 (by kernel_rfl) rfl (Nat.le_of_ble_eq_true (by kernel_rfl)) ?_
  simp only [Tryz.results48, Tryz.ntmps48]
  repeat' (first | (with_reducible first | refine awp_seq ?_ | refine awp_blockS ?_ | refine awp_blockC ?_ | refine awp_blockR ?_ | refine awp_skip ?_ | refine awp_ret ?_ | refine awp_exit ?_ | refine awp_region ?_ | refine awp_condM ?_ | refine And.intro ?_ ?_ | apply gQ_merge | apply gE_merge | exact EqV_w | exact EqE_w | exact EqV_ptr | exact EqE_ptr | exact EqV_msl | exact EqE_msl | exact EqV_agg | exact EqE_agg | exact EqV_fn | exact EqE_fn | exact EqV_gd | exact EqE_gd | refine gM_splitN ?_ ?_ | refine gM_split ?_ ?_ |  refine condM_splitDN ?_ ?_ | refine condM_splitD ?_ ?_ | refine condM_splitN ?_ ?_ | refine condM_split ?_ ?_ | refine condM_any ?_ ?_ | intro _) | (simp [*]))
  all_goals exact inI64 (by omega) (by omega)
theorem pts_bd {s : Seg} (ok : SegOk s) : 0 ≤ ptsS s ∧ ptsS s ≤ 300000 := by
  have hm := ok.m
  have hs := ok.s
  unfold ptsS
  omega
theorem both_bd {s : Seg} (ok : SegOk s) : 0 ≤ bothS s ∧ bothS s ≤ 300000 := by
  have hm := ok.m
  have hs := ok.s
  unfold bothS
  omega
set_option maxHeartbeats 4000000 in
theorem between_c (l : List Seg) (ok : SegsOk l) : RealCall Tryz.prog 22 [.agg (cRide l), .agg (cRide l)] (.tup [.agg [.int .i64 (350 + driven ptsS l), .int .i64 (350 + driven bothS l)], .int .i64 0]) true := by
  have c1 := fare_c l ok _ ptsS points_c (fun k hk => pts_bd (ok.seg k hk))
  have c2 := fare_c l ok _ bothS both_c (fun k hk => both_bd (ok.seg k hk))
  clear ok
  unfold cRide cFare at *
  generalize driven ptsS l = a at *
  generalize driven bothS l = b at *
  refine realcall_intro Tryz.func22 (by kernel_rfl) rfl (Nat.le_of_ble_eq_true (by kernel_rfl)) ?_
  simp only [Tryz.results22, Tryz.ntmps22]
  repeat' (first | (with_reducible first | refine awp_seq ?_ | refine awp_blockS ?_ | refine awp_blockC ?_ | refine awp_blockR ?_ | refine awp_skip ?_ | refine awp_ret ?_ | refine awp_exit ?_ | refine awp_region ?_ | refine awp_condM ?_ | refine And.intro ?_ ?_ | apply gQ_merge | apply gE_merge | exact EqV_w | exact EqE_w | exact EqV_ptr | exact EqE_ptr | exact EqV_msl | exact EqE_msl | exact EqV_agg | exact EqE_agg | exact EqV_fn | exact EqE_fn | exact EqV_gd | exact EqE_gd | refine gM_splitN ?_ ?_ | refine gM_split ?_ ?_ |  refine condM_splitDN ?_ ?_ | refine condM_splitD ?_ ?_ | refine condM_splitN ?_ ?_ | refine condM_split ?_ ?_ | refine condM_any ?_ ?_ | refine cw (c1) ?_ | refine cw (c2) ?_ | intro _) | (simp [*]) | (refine cw_eq (c1) ?_ ?_; (· (simp [*]; done))) | (refine cw_eq (c2) ?_ ?_; (· (simp [*]; done))))
set_option maxHeartbeats 4000000 in
theorem fareOf_c (l : List Seg) (ok : SegsOk l) : RealCall Tryz.prog 7 [.agg cCity, .agg (cTripT l)] (.tup [.agg (cFare ptsS l), .int .i64 0]) true := by
  have c1 := openTrip_c l ok
  have c2 := fare_c l ok _ ptsS points_c (fun k hk => pts_bd (ok.seg k hk))
  clear ok
  unfold cRide cFare cCity cTripT at *
  refine realcall_intro Tryz.func7 (by kernel_rfl) rfl (Nat.le_of_ble_eq_true (by kernel_rfl)) ?_
  simp only [Tryz.results7, Tryz.ntmps7]
  repeat' (first | (with_reducible first | refine awp_seq ?_ | refine awp_blockS ?_ | refine awp_blockC ?_ | refine awp_blockR ?_ | refine awp_skip ?_ | refine awp_ret ?_ | refine awp_exit ?_ | refine awp_region ?_ | refine awp_condM ?_ | refine And.intro ?_ ?_ | apply gQ_merge | apply gE_merge | exact EqV_w | exact EqE_w | exact EqV_ptr | exact EqE_ptr | exact EqV_msl | exact EqE_msl | exact EqV_agg | exact EqE_agg | exact EqV_fn | exact EqE_fn | exact EqV_gd | exact EqE_gd | refine gM_splitN ?_ ?_ | refine gM_split ?_ ?_ |  refine condM_splitDN ?_ ?_ | refine condM_splitD ?_ ?_ | refine condM_splitN ?_ ?_ | refine condM_split ?_ ?_ | refine condM_any ?_ ?_ | refine cw (c1) ?_ | refine cw (c2) ?_ | intro _) | (simp [*]) | (refine cw_eq (c1) ?_ ?_; (· (simp [*]; done))) | (refine cw_eq (c2) ?_ ?_; (· (simp [*]; done))))
set_option maxHeartbeats 4000000 in
theorem fareRange_c (l : List Seg) (ok : SegsOk l) : RealCall Tryz.prog 8 [.agg cCity, .agg (cTripT l)] (.tup [.agg [.int .i64 (350 + driven ptsS l), .int .i64 (350 + driven bothS l)], .int .i64 0]) true := by
  have c1 := openTrip_c l ok
  have c2 := between_c l ok
  clear ok
  unfold cRide cCity cTripT at *
  refine realcall_intro Tryz.func8 (by kernel_rfl) rfl (Nat.le_of_ble_eq_true (by kernel_rfl)) ?_
  simp only [Tryz.results8, Tryz.ntmps8]
  repeat' (first | (with_reducible first | refine awp_seq ?_ | refine awp_blockS ?_ | refine awp_blockC ?_ | refine awp_blockR ?_ | refine awp_skip ?_ | refine awp_ret ?_ | refine awp_exit ?_ | refine awp_region ?_ | refine awp_condM ?_ | refine And.intro ?_ ?_ | apply gQ_merge | apply gE_merge | exact EqV_w | exact EqE_w | exact EqV_ptr | exact EqE_ptr | exact EqV_msl | exact EqE_msl | exact EqV_agg | exact EqE_agg | exact EqV_fn | exact EqE_fn | exact EqV_gd | exact EqE_gd | refine gM_splitN ?_ ?_ | refine gM_split ?_ ?_ |  refine condM_splitDN ?_ ?_ | refine condM_splitD ?_ ?_ | refine condM_splitN ?_ ?_ | refine condM_split ?_ ?_ | refine condM_any ?_ ?_ | refine cw (c1) ?_ | refine cw (c2) ?_ | intro _) | (simp [*]) | (refine cw_eq (c1) ?_ ?_; (· (simp [*]; done))) | (refine cw_eq (c2) ?_ ?_; (· (simp [*]; done))))
end Go.Proofs.YtlcimflkjfbaoaaGreat

