/- Contracts of functions for this claim: lemmas alone. -/
import Derived.Test.YtiialcomflggcaaDoorP11
set_option linter.unusedSimpArgs false
set_option linter.unusedVariables false
namespace Go.Proofs.YtiialcomflggcaaDoor
open Go Go.Fi
set_option maxRecDepth 20000

/-! ### lists of numbers that grow -/
def iA (l : List Int) : List AV := (ints l).map (.w false false)
@[simp] theorem iA_len (l : List Int) : (iA l).length = l.length := by simp [iA]
@[simp] theorem iA_get (l : List Int) (i : Nat) (h : i < l.length) : nthA (iA l) i = .w false false (.int .i64 (nth l i)) := by
  unfold iA; rw [nthA_map _ _ _ (by simpa using h), ints_get l i h]
@[simp] theorem iA_set (l : List Int) (i : Nat) (v : Int) : (iA l).set i (.w false false (.int .i64 v)) = iA (l.set i v) := by
  simp [iA, ints, List.map_set]
@[simp] theorem iA_snoc (l : List Int) (v : Int) : iA l ++ [.w false false (.int .i64 v)] = iA (l ++ [v]) := by simp [iA, ints]
@[simp] theorem iA_nil : iA [] = [] := rfl
@[simp] theorem iA_lt (l : List Int) (n : Nat) : AV.lt.ltL n (iA l) = true := ltL_map n false false _
@[simp] theorem iA_self {D : List Nat} {h : Heap} {n n' : Nat} (l : List Int) : cellsLe D h n n' (iA l) (iA l) = True := eq_true (cellsLe_w false false _)
@[simp high] theorem iA_frz (h : Heap) (d : Nat) (l : List Int) : (iA l).mapM (frz h d) = some (ints l) := mapM_frz h d false false (ints l)
@[simp high] theorem iA_fresh (h : Heap) (d : Nat) (l : List Int) : (iA l).all (freshA h d) = true := all_flat h d false false (ints l) (ints_flat l)

/-! ### the drive -/
/-- the greater of two, as the code tells it -/
def mxI (a b : Int) : Int := if a < b then b else a
structure Delay where
  stop : Int
  by_ : Int
def riderOf (p : Plan) (s : Stop) : Rider := nth p.riders s.rider.toNat
def placeOf (p : Plan) (s : Stop) : Int := if s.out = true then (riderOf p s).to else (riderOf p s).frm
def leastOf (p : Plan) (s : Stop) : Int := if s.out = true then 0 else (riderOf p s).ready
def seatsOf (p : Plan) (s : Stop) : Int := if s.out = true then -(riderOf p s).seats else (riderOf p s).seats
def cellM (m : Grid) (a b : Int) : Int := nth (nth m a.toNat) b.toNat
def atK (p : Plan) : Nat → Int
  | 0 => p.car.at_
  | k + 1 => placeOf p (nth p.stops k)
def clockK (m : Grid) (p : Plan) (d : Delay) : Nat → Int
  | 0 => p.car.time
  | k + 1 => mxI (clockK m p d k + cellM m (atK p k) (placeOf p (nth p.stops k)) + (if (k : Int) = d.stop then d.by_ else 0)) (leastOf p (nth p.stops k))
def takenK (p : Plan) : Nat → Int
  | 0 => aboardS p.riders
  | k + 1 => takenK p k + seatsOf p (nth p.stops k)
def timesK (m : Grid) (p : Plan) (d : Delay) : Nat → List Int
  | 0 => []
  | k + 1 => timesK m p d k ++ [clockK m p d (k + 1)]
def seatsK (p : Plan) : Nat → List Int
  | 0 => []
  | k + 1 => seatsK p k ++ [takenK p (k + 1)]
@[simp] theorem timesK_len (m : Grid) (p : Plan) (d : Delay) : ∀ k, (timesK m p d k).length = k
  | 0 => rfl
  | k + 1 => by simp [timesK, timesK_len m p d k]
@[simp] theorem seatsK_len (p : Plan) : ∀ k, (seatsK p k).length = k
  | 0 => rfl
  | k + 1 => by simp [seatsK, seatsK_len p k]
def timesS (m : Grid) (p : Plan) (d : Delay) : List Int := timesK m p d p.stops.length
def seatsS (p : Plan) : List Int := seatsK p p.stops.length
@[simp] theorem atK_zero (p : Plan) : atK p 0 = p.car.at_ := rfl
@[simp] theorem clockK_zero (m : Grid) (p : Plan) (d : Delay) : clockK m p d 0 = p.car.time := rfl
@[simp] theorem takenK_zero (p : Plan) : takenK p 0 = aboardS p.riders := rfl
@[simp] theorem timesK_zero (m : Grid) (p : Plan) (d : Delay) : timesK m p d 0 = [] := rfl
@[simp] theorem seatsK_zero (p : Plan) : seatsK p 0 = [] := rfl
theorem timesS_len (m : Grid) (p : Plan) (d : Delay) : (timesS m p d).length = p.stops.length := timesK_len m p d _
theorem seatsS_len (p : Plan) : (seatsS p).length = p.stops.length := seatsK_len p _
structure DriveOk (m : Grid) (p : Plan) : Prop where
  ml : m.length < 1000
  sq : ∀ i, i < m.length → (nth m i).length = m.length
  cell : ∀ i j, i < m.length → j < m.length → 0 ≤ nth (nth m i) j ∧ nth (nth m i) j ≤ 20000
  at0 : 0 ≤ p.car.at_
  at1 : p.car.at_ < m.length
  t0 : 0 ≤ p.car.time
  t1 : p.car.time ≤ 1000000
  rl : p.riders.length < 10000
  sl : p.stops.length < 10000
  riders : ∀ j, j < p.riders.length → RiderOk m (nth p.riders j)
  stops : ∀ i, i < p.stops.length → 0 ≤ (nth p.stops i).rider ∧ (nth p.stops i).rider < p.riders.length
theorem DriveOk.place {m : Grid} {p : Plan} (h : DriveOk m p) {i : Nat} (hi : i < p.stops.length) : RiderOk m (riderOf p (nth p.stops i)) := by
  have := h.stops i hi
  exact h.riders _ (by omega)
theorem DriveOk.to {m : Grid} {p : Plan} (h : DriveOk m p) {i : Nat} (hi : i < p.stops.length) : 0 ≤ placeOf p (nth p.stops i) ∧ placeOf p (nth p.stops i) < m.length := by
  have := h.place hi
  unfold placeOf
  split
  · exact ⟨this.t0, this.t1⟩
  · exact ⟨this.f0, this.f1⟩
theorem DriveOk.least {m : Grid} {p : Plan} (h : DriveOk m p) {i : Nat} (hi : i < p.stops.length) : 0 ≤ leastOf p (nth p.stops i) ∧ leastOf p (nth p.stops i) ≤ 1000000 := by
  have := h.place hi
  unfold leastOf
  split
  · omega
  · exact ⟨this.y0, this.y1⟩
theorem DriveOk.at_ {m : Grid} {p : Plan} (h : DriveOk m p) : ∀ {k : Nat}, k ≤ p.stops.length → 0 ≤ atK p k ∧ atK p k < m.length
  | 0, _ => ⟨h.at0, h.at1⟩
  | k + 1, hk => h.to (by omega)
theorem DriveOk.go {m : Grid} {p : Plan} (h : DriveOk m p) {k : Nat} (hk : k < p.stops.length) : 0 ≤ cellM m (atK p k) (placeOf p (nth p.stops k)) ∧ cellM m (atK p k) (placeOf p (nth p.stops k)) ≤ 20000 := by
  have h1 := h.at_ (k := k) (by omega)
  have h2 := h.to hk
  exact h.cell _ _ (by omega) (by omega)
theorem DriveOk.clock {m : Grid} {p : Plan} (h : DriveOk m p) {d : Delay} (hd : 0 ≤ d.by_ ∧ d.by_ ≤ 30000) : ∀ {k : Nat}, k ≤ p.stops.length → 0 ≤ clockK m p d k ∧ clockK m p d k ≤ 1000000 + 50000 * (k : Int)
  | 0, _ => ⟨h.t0, by have := h.t1; simp only [clockK]; omega⟩
  | k + 1, hk => by
    have h1 := h.clock hd (k := k) (by omega)
    have h2 := h.go (k := k) (by omega)
    have h3 := h.least (i := k) (by omega)
    simp only [clockK]
    generalize cellM m (atK p k) (placeOf p (nth p.stops k)) = v at *
    generalize leastOf p (nth p.stops k) = l at *
    generalize clockK m p d k = c at *
    have h4 : 0 ≤ (if (k : Int) = d.stop then d.by_ else 0) ∧ (if (k : Int) = d.stop then d.by_ else 0) ≤ 30000 := by split <;> omega
    generalize (if (k : Int) = d.stop then d.by_ else 0) = y at *
    unfold mxI
    split <;> omega
theorem aboardS_bd {m : Grid} : ∀ {l : List Rider}, (∀ j, j < l.length → RiderOk m (nth l j)) → 0 ≤ aboardS l ∧ aboardS l ≤ 8 * (l.length : Int)
  | [], _ => by simp [aboardS]
  | r :: l, h => by
    have h1 := aboardS_bd (l := l) (fun j hj => by have := h (j + 1) (by simp; omega); simpa using this)
    have h2 := h 0 (by simp)
    have a := h2.s0
    have b := h2.s1
    simp only [nth_zero] at a b
    simp only [aboardS, seatsAb, List.length_cons]
    split <;> omega
theorem DriveOk.taken {m : Grid} {p : Plan} (h : DriveOk m p) : ∀ {k : Nat}, k ≤ p.stops.length → -8 * (k : Int) ≤ takenK p k ∧ takenK p k ≤ 80000 + 8 * (k : Int)
  | 0, _ => by have := aboardS_bd h.riders; have := h.rl; simp only [takenK]; omega
  | k + 1, hk => by
    have h1 := h.taken (k := k) (by omega)
    have h2 := h.place (i := k) (by omega)
    have a := h2.s0
    have b := h2.s1
    simp only [takenK, seatsOf]
    split <;> omega
def cTour (m : Grid) (p : Plan) (ts ss : List Int) : List PV :=
  [.int .i64 p.car.at_, .int .i64 p.car.time, .int .i64 p.car.seats, .sl p.riders.length (cRiders p.riders), .sl p.stops.length (cStops p.stops), .sl m.length (cRows m), .sl ts.length (ints ts), .sl ss.length (ints ss)]
def aTour (m : Grid) (p : Plan) (d : Delay) : PV := .ip (cTour m p (timesS m p d) (seatsS p)) 0
set_option maxHeartbeats 8000000 in
theorem drive_c (m : Grid) (p : Plan) (ok : DriveOk m p) (d : Delay) (hd : 0 ≤ d.by_ ∧ d.by_ ≤ 30000) : RealCall Tryd.prog 49 [aMap m, aPlan p, .agg [.int .i64 d.stop, .int .i64 d.by_]] (aTour m p d) false := by
  have hml := ok.ml
  have hrl := ok.rl
  have hsl := ok.sl
  have ko := keep ok
  clear ok
  unfold aMap aPlan cPlan aTour cTour
  refine realcall_intro Tryd.func49 (by kernel_rfl) rfl (Nat.le_of_ble_eq_true (by kernel_rfl)) ?_
  simp only [Tryd.results49, Tryd.ntmps49]
  repeat' (first | (with_reducible first | refine awp_seq ?_ | refine awp_blockS ?_ | refine awp_blockC ?_ | refine awp_blockR ?_ | refine awp_skip ?_ | refine awp_ret ?_ | refine awp_exit ?_ | refine awp_region ?_ | refine awp_regionD (id := 2) 9 mixed (by decide +kernel) ?_ | refine awp_regionD (id := 13) 9 mixed (by decide +kernel) ?_ | refine awp_regionD (id := 15) 8 mixed (by decide +kernel) ?_ | refine awp_regionS (id := 20) [0, 1, 2, 3, 4, 5, 6, 7, 9, 10, 11, 12, 13, 14] [8, 15, 16, 17, 18, 19, 20, 21] [[.fld 7 80 2, .fld 7 80 3], [.fld 7 80 2, .fld 7 80 3, .slot 7], [], [], [], [], [], [], [.fld 7 80 2], [.fld 7 80 2], [.fld 7 80 2], [.fld 7 80 2], [.fld 7 80 2], [.fld 7 80 2]] [[.fld 7 80 2], [.fld 7 80 3], [], [], [.slot 7], [], [], [.slot 7]] mixed (by decide +kernel) ?_ | refine awp_condM ?_ | refine And.intro ?_ ?_ | apply gQ_merge | apply gE_merge | exact EqV_w | exact EqE_w | exact EqV_ptr | exact EqE_ptr | exact EqV_msl | exact EqE_msl | exact EqV_agg | exact EqE_agg | exact EqV_fn | exact EqE_fn | exact EqV_gd | exact EqE_gd | refine gM_splitN ?_ ?_ | refine gM_split ?_ ?_ |  refine condM_splitDN ?_ ?_ | refine condM_splitD ?_ ?_ | refine condM_splitN ?_ ?_ | refine condM_split ?_ ?_ | refine condM_any ?_ ?_ | intro _) | (simp [*]))
  refine awp_for3 (fun (k : Nat) => k ≤ p.riders.length) [3, 4, 5, 7, 8, 9, 30, 31] (fun (k : Nat) => [(32, .w false false (.int .i64 k)), (10, .w false false (.int .i64 (aboardS (p.riders.take k))))]) [0, 1, 2, 3] (fun (k : Nat) => []) (fun (k : Nat) => p.riders.length - k) (fun (_u : Unit) => True) [3, 4, 5, 7, 8, 9] (fun (_u : Unit) => [(10, .w false false (.int .i64 (aboardS p.riders)))]) [0, 1, 2, 3] (fun (_u : Unit) => []) (0) (Nat.zero_le _) (by simp) (by simp) (fun k hk => ?_) (fun _u hf => ?_)
  · by_cases hlt : k < p.riders.length
    · have h1 := aboardS_bd (m := m) (l := p.riders.take k) (fun j hj => by
        rw [take_len _ _ hk] at hj
        have := ko.riders j (by omega)
        have e : nth (p.riders.take k) j = nth p.riders j := by simp [nth, List.getD_eq_getElem?_getD, List.getElem?_take, hj]
        rw [e]; exact this)
      rw [take_len _ _ hk] at h1
      have s0 := (ko.riders k hlt).s0
      have s1 := (ko.riders k hlt).s1
      have kS := keep (aboardS_succ p.riders k hlt)
      cases hab : (nth p.riders k).aboard with
      | true =>
        have kS2 : Keep (aboardS (p.riders.take (k + 1)) = aboardS (p.riders.take k) + (nth p.riders k).seats) := by rw [seatsAb, if_pos hab] at kS; exact kS
        clear kS
        repeat' (first | (with_reducible first | refine awp_seq ?_ | refine awp_blockS ?_ | refine awp_blockC ?_ | refine awp_blockR ?_ | refine awp_skip ?_ | refine awp_ret ?_ | refine awp_exit ?_ | refine awp_region ?_ | refine awp_regionD (id := 2) 9 mixed (by decide +kernel) ?_ | refine awp_regionD (id := 13) 9 mixed (by decide +kernel) ?_ | refine awp_regionD (id := 15) 8 mixed (by decide +kernel) ?_ | refine awp_regionS (id := 20) [0, 1, 2, 3, 4, 5, 6, 7, 9, 10, 11, 12, 13, 14] [8, 15, 16, 17, 18, 19, 20, 21] [[.fld 7 80 2, .fld 7 80 3], [.fld 7 80 2, .fld 7 80 3, .slot 7], [], [], [], [], [], [], [.fld 7 80 2], [.fld 7 80 2], [.fld 7 80 2], [.fld 7 80 2], [.fld 7 80 2], [.fld 7 80 2]] [[.fld 7 80 2], [.fld 7 80 3], [], [], [.slot 7], [], [], [.slot 7]] mixed (by decide +kernel) ?_ | refine awp_condM ?_ | refine And.intro ?_ ?_ | apply gQ_merge | apply gE_merge | exact EqV_w | exact EqE_w | exact EqV_ptr | exact EqE_ptr | exact EqV_msl | exact EqE_msl | exact EqV_agg | exact EqE_agg | exact EqV_fn | exact EqE_fn | exact EqV_gd | exact EqE_gd | refine gM_splitN ?_ ?_ | refine gM_split ?_ ?_ |  refine condM_splitDN ?_ ?_ | refine condM_splitD ?_ ?_ | refine condM_splitN ?_ ?_ | refine condM_split ?_ ?_ | refine condM_any ?_ ?_ | intro _) | (simp [*, hlt, cRider]))
        all_goals first
          | exact inI64 (by omega) (by omega)
          | omega
          | (refine loopK_normal _ _ _ _ _ (k + 1) _ ?_ (by first | omega | (dsimp only; omega) | (simp; omega)) ?_; (· omega); (refine le_of ?_ ?_ <;> first | trivial | (simp [*, show aboardS (p.riders.take (k + 1)) = aboardS (p.riders.take k) + (nth p.riders k).seats from kS2]; done)))
          | skip
      | false =>
        have kS2 : Keep (aboardS (p.riders.take (k + 1)) = aboardS (p.riders.take k)) := by rw [seatsAb, if_neg (by rw [hab]; decide), Int.add_zero] at kS; exact kS
        clear kS
        repeat' (first | (with_reducible first | refine awp_seq ?_ | refine awp_blockS ?_ | refine awp_blockC ?_ | refine awp_blockR ?_ | refine awp_skip ?_ | refine awp_ret ?_ | refine awp_exit ?_ | refine awp_region ?_ | refine awp_regionD (id := 2) 9 mixed (by decide +kernel) ?_ | refine awp_regionD (id := 13) 9 mixed (by decide +kernel) ?_ | refine awp_regionD (id := 15) 8 mixed (by decide +kernel) ?_ | refine awp_regionS (id := 20) [0, 1, 2, 3, 4, 5, 6, 7, 9, 10, 11, 12, 13, 14] [8, 15, 16, 17, 18, 19, 20, 21] [[.fld 7 80 2, .fld 7 80 3], [.fld 7 80 2, .fld 7 80 3, .slot 7], [], [], [], [], [], [], [.fld 7 80 2], [.fld 7 80 2], [.fld 7 80 2], [.fld 7 80 2], [.fld 7 80 2], [.fld 7 80 2]] [[.fld 7 80 2], [.fld 7 80 3], [], [], [.slot 7], [], [], [.slot 7]] mixed (by decide +kernel) ?_ | refine awp_condM ?_ | refine And.intro ?_ ?_ | apply gQ_merge | apply gE_merge | exact EqV_w | exact EqE_w | exact EqV_ptr | exact EqE_ptr | exact EqV_msl | exact EqE_msl | exact EqV_agg | exact EqE_agg | exact EqV_fn | exact EqE_fn | exact EqV_gd | exact EqE_gd | refine gM_splitN ?_ ?_ | refine gM_split ?_ ?_ |  refine condM_splitDN ?_ ?_ | refine condM_splitD ?_ ?_ | refine condM_splitN ?_ ?_ | refine condM_split ?_ ?_ | refine condM_any ?_ ?_ | intro _) | (simp [*, hlt, cRider]))
        all_goals first
          | exact inI64 (by omega) (by omega)
          | omega
          | (refine loopK_normal _ _ _ _ _ (k + 1) _ ?_ (by first | omega | (dsimp only; omega) | (simp; omega)) ?_; (· omega); (refine le_of ?_ ?_ <;> first | trivial | (simp [*, show aboardS (p.riders.take (k + 1)) = aboardS (p.riders.take k) from kS2]; done)))
          | skip
    · have hke : k = p.riders.length := by omega
      subst hke
      repeat' (first | (with_reducible first | refine awp_seq ?_ | refine awp_blockS ?_ | refine awp_blockC ?_ | refine awp_blockR ?_ | refine awp_skip ?_ | refine awp_ret ?_ | refine awp_exit ?_ | refine awp_region ?_ | refine awp_regionD (id := 2) 9 mixed (by decide +kernel) ?_ | refine awp_regionD (id := 13) 9 mixed (by decide +kernel) ?_ | refine awp_regionD (id := 15) 8 mixed (by decide +kernel) ?_ | refine awp_regionS (id := 20) [0, 1, 2, 3, 4, 5, 6, 7, 9, 10, 11, 12, 13, 14] [8, 15, 16, 17, 18, 19, 20, 21] [[.fld 7 80 2, .fld 7 80 3], [.fld 7 80 2, .fld 7 80 3, .slot 7], [], [], [], [], [], [], [.fld 7 80 2], [.fld 7 80 2], [.fld 7 80 2], [.fld 7 80 2], [.fld 7 80 2], [.fld 7 80 2]] [[.fld 7 80 2], [.fld 7 80 3], [], [], [.slot 7], [], [], [.slot 7]] mixed (by decide +kernel) ?_ | refine awp_condM ?_ | refine And.intro ?_ ?_ | apply gQ_merge | apply gE_merge | exact EqV_w | exact EqE_w | exact EqV_ptr | exact EqE_ptr | exact EqV_msl | exact EqE_msl | exact EqV_agg | exact EqE_agg | exact EqV_fn | exact EqE_fn | exact EqV_gd | exact EqE_gd | refine gM_splitN ?_ ?_ | refine gM_split ?_ ?_ |  refine condM_splitDN ?_ ?_ | refine condM_splitD ?_ ?_ | refine condM_splitN ?_ ?_ | refine condM_split ?_ ?_ | refine condM_any ?_ ?_ | intro _) | (simp [*]))
      all_goals (refine finW_intro () ?_ ?_; (· trivial); (refine le_of ?_ ?_ <;> first | trivial | (simp [*, List.take_length]; done)))
  · repeat' (first | (with_reducible first | refine awp_seq ?_ | refine awp_blockS ?_ | refine awp_blockC ?_ | refine awp_blockR ?_ | refine awp_skip ?_ | refine awp_ret ?_ | refine awp_exit ?_ | refine awp_region ?_ | refine awp_regionD (id := 2) 9 mixed (by decide +kernel) ?_ | refine awp_regionD (id := 13) 9 mixed (by decide +kernel) ?_ | refine awp_regionD (id := 15) 8 mixed (by decide +kernel) ?_ | refine awp_regionS (id := 20) [0, 1, 2, 3, 4, 5, 6, 7, 9, 10, 11, 12, 13, 14] [8, 15, 16, 17, 18, 19, 20, 21] [[.fld 7 80 2, .fld 7 80 3], [.fld 7 80 2, .fld 7 80 3, .slot 7], [], [], [], [], [], [], [.fld 7 80 2], [.fld 7 80 2], [.fld 7 80 2], [.fld 7 80 2], [.fld 7 80 2], [.fld 7 80 2]] [[.fld 7 80 2], [.fld 7 80 3], [], [], [.slot 7], [], [], [.slot 7]] mixed (by decide +kernel) ?_ | refine awp_condM ?_ | refine And.intro ?_ ?_ | apply gQ_merge | apply gE_merge | exact EqV_w | exact EqE_w | exact EqV_ptr | exact EqE_ptr | exact EqV_msl | exact EqE_msl | exact EqV_agg | exact EqE_agg | exact EqV_fn | exact EqE_fn | exact EqV_gd | exact EqE_gd | refine gM_splitN ?_ ?_ | refine gM_split ?_ ?_ |  refine condM_splitDN ?_ ?_ | refine condM_splitD ?_ ?_ | refine condM_splitN ?_ ?_ | refine condM_split ?_ ?_ | refine condM_any ?_ ?_ | intro _) | (simp [*]))
    refine awp_for4 6 (fun (k : Nat) => k ≤ p.stops.length) [3, 4, 5, 7, 44, 45] (fun (k : Nat) => [(46, .w false false (.int .i64 k)), (8, .w false false (.int .i64 (atK p k))), (9, .w false false (.int .i64 (clockK m p d k))), (10, .w false false (.int .i64 (takenK p k)))]) [0, 1, 2] (fun (k : Nat) => [(3, [.w false false (.int .i64 p.car.at_), .w false false (.int .i64 p.car.time), .w false false (.int .i64 p.car.seats), .w false false (.sl p.riders.length (cRiders p.riders)), .w false false (.sl p.stops.length (cStops p.stops)), .w false false (.sl m.length (cRows m)), .msl 4 k 1 0 k, .msl 5 k 1 0 k]), (4, iA (timesK m p d k)), (5, iA (seatsK p k))]) (fun (k : Nat) => p.stops.length - k) (fun (_u : Unit) => True) [7] (fun (_u : Unit) => []) [] (fun (_u : Unit) => [(3, [.w false false (.int .i64 p.car.at_), .w false false (.int .i64 p.car.time), .w false false (.int .i64 p.car.seats), .w false false (.sl p.riders.length (cRiders p.riders)), .w false false (.sl p.stops.length (cStops p.stops)), .w false false (.sl m.length (cRows m)), .msl 4 (timesS m p d).length 1 0 (timesS m p d).length, .msl 5 (seatsS p).length 1 0 (seatsS p).length]), (4, iA (timesS m p d)), (5, iA (seatsS p))]) (0) (Nat.zero_le _) (le_gen [] (by simp) (by simp)) (fun k hk => ?_) (fun _u hf => ?_)
    · by_cases hlt : k < p.stops.length
      · have hst := ko.stops k hlt
        have hat := ko.at_ (k := k) hk
        have hto := ko.to hlt
        have hgo := ko.go hlt
        have hcl := ko.clock hd (k := k) hk
        have htk := ko.taken (k := k) hk
        have hle := ko.least hlt
        have hpl := ko.place hlt
        have s0 := hpl.s0
        have s1 := hpl.s1
        have eA : atK p (k + 1) = placeOf p (nth p.stops k) := rfl
        have eC : clockK m p d (k + 1) = mxI (clockK m p d k + cellM m (atK p k) (placeOf p (nth p.stops k)) + (if (k : Int) = d.stop then d.by_ else 0)) (leastOf p (nth p.stops k)) := rfl
        have eT : takenK p (k + 1) = takenK p k + seatsOf p (nth p.stops k) := rfl
        have eL1 : timesK m p d (k + 1) = timesK m p d k ++ [clockK m p d (k + 1)] := rfl
        have eL2 : seatsK p (k + 1) = seatsK p k ++ [takenK p (k + 1)] := rfl
        have l1 := timesK_len m p d k
        have l2 := seatsK_len p k
        have hsq := fun a (h : a < m.length) => ko.sq a h
        clear ko hpl
        rw [eC] at eL1
        rw [eT] at eL2
        generalize hss : nth p.stops k = s at *
        obtain ⟨sr, so⟩ := s
        obtain ⟨j, rfl⟩ := Int.eq_ofNat_of_zero_le hst.1
        generalize hA : atK p k = A at *
        obtain ⟨a, rfl⟩ := Int.eq_ofNat_of_zero_le hat.1
        have hst2 : (j : Int) < (p.riders.length : Int) := hst.2
        have hjl : j < p.riders.length := by omega
        have hal : a < m.length := by omega
        have hrow := hsq a hal
        clear hsq hst hat hst2
        obtain ⟨b, hb⟩ := Int.eq_ofNat_of_zero_le hto.1
        rw [hb] at hto eC hgo eA eL1
        have hbl : b < m.length := by omega
        have hcm : cellM m (a : Int) (b : Int) = nth (nth m a) b := rfl
        rw [hcm] at hgo eC eL1
        clear hcm hto
        have hri : (riderOf p ⟨(j : Int), so⟩).seats = (nth p.riders j).seats := rfl
        rw [hri] at s0 s1
        clear hri
        generalize hv : nth (nth m a) b = v at *
        by_cases hds : (k : Int) = d.stop
        · rw [if_pos hds] at eC eL1
          have hds' := hds.symm
          clear hds
          cases so with
          | true =>
            have hb2 : (nth p.riders j).to = (b : Int) := hb
            have hl0 : leastOf p ⟨(j : Int), true⟩ = 0 := rfl
            have hse : seatsOf p ⟨(j : Int), true⟩ = -(nth p.riders j).seats := rfl
            rw [hl0] at eC eL1 hle
            rw [hse] at eT eL2
            have ke := keep (And.intro eA (And.intro eC (And.intro eT (And.intro eL1 eL2))))
            clear eA eC eT eL1 eL2 hb hl0 hse
            repeat' (first | (with_reducible first | refine awp_seq ?_ | refine awp_blockS ?_ | refine awp_blockC ?_ | refine awp_blockR ?_ | refine awp_skip ?_ | refine awp_ret ?_ | refine awp_exit ?_ | refine awp_region ?_ | refine awp_regionD (id := 2) 9 mixed (by decide +kernel) ?_ | refine awp_regionD (id := 13) 9 mixed (by decide +kernel) ?_ | refine awp_regionD (id := 15) 8 mixed (by decide +kernel) ?_ | refine awp_regionS (id := 20) [0, 1, 2, 3, 4, 5, 6, 7, 9, 10, 11, 12, 13, 14] [8, 15, 16, 17, 18, 19, 20, 21] [[.fld 7 80 2, .fld 7 80 3], [.fld 7 80 2, .fld 7 80 3, .slot 7], [], [], [], [], [], [], [.fld 7 80 2], [.fld 7 80 2], [.fld 7 80 2], [.fld 7 80 2], [.fld 7 80 2], [.fld 7 80 2]] [[.fld 7 80 2], [.fld 7 80 3], [], [], [.slot 7], [], [], [.slot 7]] mixed (by decide +kernel) ?_ | refine awp_condM ?_ | refine And.intro ?_ ?_ | apply gQ_merge | apply gE_merge | exact EqV_w | exact EqE_w | exact EqV_ptr | exact EqE_ptr | exact EqV_msl | exact EqE_msl | exact EqV_agg | exact EqE_agg | exact EqV_fn | exact EqE_fn | exact EqV_gd | exact EqE_gd | refine gM_splitN ?_ ?_ | refine gM_split ?_ ?_ |  refine condM_splitDN ?_ ?_ | refine condM_splitD ?_ ?_ | refine condM_splitN ?_ ?_ | refine condM_split ?_ ?_ | refine condM_any ?_ ?_ | intro _) | (simp [*, hlt, cRider, cStop]))
            all_goals first
              | exact inI64 (by omega) (by omega)
                          | omega
              | (refine loopK_normal _ _ _ _ _ (k + 1) _ ?_ (by first | omega | (dsimp only; omega) | (simp; omega)) ?_; (· omega); (refine le_gen [] ?_ ?_ <;> first | trivial | (simp [*, ke.1, ke.2.1, ke.2.2.1, ke.2.2.2.1, ke.2.2.2.2, mxI]; done)))
              | skip
          | false =>
            have hb2 : (nth p.riders j).frm = (b : Int) := hb
            have hl0 : leastOf p ⟨(j : Int), false⟩ = (nth p.riders j).ready := rfl
            have hse : seatsOf p ⟨(j : Int), false⟩ = (nth p.riders j).seats := rfl
            rw [hl0] at eC eL1 hle
            rw [hse] at eT eL2
            have ke := keep (And.intro eA (And.intro eC (And.intro eT (And.intro eL1 eL2))))
            clear eA eC eT eL1 eL2 hb hl0 hse
            repeat' (first | (with_reducible first | refine awp_seq ?_ | refine awp_blockS ?_ | refine awp_blockC ?_ | refine awp_blockR ?_ | refine awp_skip ?_ | refine awp_ret ?_ | refine awp_exit ?_ | refine awp_region ?_ | refine awp_regionD (id := 2) 9 mixed (by decide +kernel) ?_ | refine awp_regionD (id := 13) 9 mixed (by decide +kernel) ?_ | refine awp_regionD (id := 15) 8 mixed (by decide +kernel) ?_ | refine awp_regionS (id := 20) [0, 1, 2, 3, 4, 5, 6, 7, 9, 10, 11, 12, 13, 14] [8, 15, 16, 17, 18, 19, 20, 21] [[.fld 7 80 2, .fld 7 80 3], [.fld 7 80 2, .fld 7 80 3, .slot 7], [], [], [], [], [], [], [.fld 7 80 2], [.fld 7 80 2], [.fld 7 80 2], [.fld 7 80 2], [.fld 7 80 2], [.fld 7 80 2]] [[.fld 7 80 2], [.fld 7 80 3], [], [], [.slot 7], [], [], [.slot 7]] mixed (by decide +kernel) ?_ | refine awp_condM ?_ | refine And.intro ?_ ?_ | apply gQ_merge | apply gE_merge | exact EqV_w | exact EqE_w | exact EqV_ptr | exact EqE_ptr | exact EqV_msl | exact EqE_msl | exact EqV_agg | exact EqE_agg | exact EqV_fn | exact EqE_fn | exact EqV_gd | exact EqE_gd | refine gM_splitN ?_ ?_ | refine gM_split ?_ ?_ |  refine condM_splitDN ?_ ?_ | refine condM_splitD ?_ ?_ | refine condM_splitN ?_ ?_ | refine condM_split ?_ ?_ | refine condM_any ?_ ?_ | intro _) | (simp [*, hlt, cRider, cStop]))
            all_goals first
              | exact inI64 (by omega) (by omega)
                          | omega
              | (refine loopK_normal _ _ _ _ _ (k + 1) _ ?_ (by first | omega | (dsimp only; omega) | (simp; omega)) ?_; (· omega); (refine le_gen [] ?_ ?_ <;> first | trivial | (simp [*, ke.1, ke.2.1, ke.2.2.1, ke.2.2.2.1, ke.2.2.2.2, mxI]; done)))
              | skip
        · rw [if_neg hds, Int.add_zero] at eC eL1
          cases so with
          | true =>
            have hb2 : (nth p.riders j).to = (b : Int) := hb
            have hl0 : leastOf p ⟨(j : Int), true⟩ = 0 := rfl
            have hse : seatsOf p ⟨(j : Int), true⟩ = -(nth p.riders j).seats := rfl
            rw [hl0] at eC eL1 hle
            rw [hse] at eT eL2
            have ke := keep (And.intro eA (And.intro eC (And.intro eT (And.intro eL1 eL2))))
            clear eA eC eT eL1 eL2 hb hl0 hse
            repeat' (first | (with_reducible first | refine awp_seq ?_ | refine awp_blockS ?_ | refine awp_blockC ?_ | refine awp_blockR ?_ | refine awp_skip ?_ | refine awp_ret ?_ | refine awp_exit ?_ | refine awp_region ?_ | refine awp_regionD (id := 2) 9 mixed (by decide +kernel) ?_ | refine awp_regionD (id := 13) 9 mixed (by decide +kernel) ?_ | refine awp_regionD (id := 15) 8 mixed (by decide +kernel) ?_ | refine awp_regionS (id := 20) [0, 1, 2, 3, 4, 5, 6, 7, 9, 10, 11, 12, 13, 14] [8, 15, 16, 17, 18, 19, 20, 21] [[.fld 7 80 2, .fld 7 80 3], [.fld 7 80 2, .fld 7 80 3, .slot 7], [], [], [], [], [], [], [.fld 7 80 2], [.fld 7 80 2], [.fld 7 80 2], [.fld 7 80 2], [.fld 7 80 2], [.fld 7 80 2]] [[.fld 7 80 2], [.fld 7 80 3], [], [], [.slot 7], [], [], [.slot 7]] mixed (by decide +kernel) ?_ | refine awp_condM ?_ | refine And.intro ?_ ?_ | apply gQ_merge | apply gE_merge | exact EqV_w | exact EqE_w | exact EqV_ptr | exact EqE_ptr | exact EqV_msl | exact EqE_msl | exact EqV_agg | exact EqE_agg | exact EqV_fn | exact EqE_fn | exact EqV_gd | exact EqE_gd | refine gM_splitN ?_ ?_ | refine gM_split ?_ ?_ |  refine condM_splitDN ?_ ?_ | refine condM_splitD ?_ ?_ | refine condM_splitN ?_ ?_ | refine condM_split ?_ ?_ | refine condM_any ?_ ?_ | intro _) | (simp [*, hlt, cRider, cStop]))
            all_goals first
              | exact inI64 (by omega) (by omega)
                          | omega
              | (refine loopK_normal _ _ _ _ _ (k + 1) _ ?_ (by first | omega | (dsimp only; omega) | (simp; omega)) ?_; (· omega); (refine le_gen [] ?_ ?_ <;> first | trivial | (simp [*, ke.1, ke.2.1, ke.2.2.1, ke.2.2.2.1, ke.2.2.2.2, mxI]; done)))
              | skip
          | false =>
            have hb2 : (nth p.riders j).frm = (b : Int) := hb
            have hl0 : leastOf p ⟨(j : Int), false⟩ = (nth p.riders j).ready := rfl
            have hse : seatsOf p ⟨(j : Int), false⟩ = (nth p.riders j).seats := rfl
            rw [hl0] at eC eL1 hle
            rw [hse] at eT eL2
            have ke := keep (And.intro eA (And.intro eC (And.intro eT (And.intro eL1 eL2))))
            clear eA eC eT eL1 eL2 hb hl0 hse
            repeat' (first | (with_reducible first | refine awp_seq ?_ | refine awp_blockS ?_ | refine awp_blockC ?_ | refine awp_blockR ?_ | refine awp_skip ?_ | refine awp_ret ?_ | refine awp_exit ?_ | refine awp_region ?_ | refine awp_regionD (id := 2) 9 mixed (by decide +kernel) ?_ | refine awp_regionD (id := 13) 9 mixed (by decide +kernel) ?_ | refine awp_regionD (id := 15) 8 mixed (by decide +kernel) ?_ | refine awp_regionS (id := 20) [0, 1, 2, 3, 4, 5, 6, 7, 9, 10, 11, 12, 13, 14] [8, 15, 16, 17, 18, 19, 20, 21] [[.fld 7 80 2, .fld 7 80 3], [.fld 7 80 2, .fld 7 80 3, .slot 7], [], [], [], [], [], [], [.fld 7 80 2], [.fld 7 80 2], [.fld 7 80 2], [.fld 7 80 2], [.fld 7 80 2], [.fld 7 80 2]] [[.fld 7 80 2], [.fld 7 80 3], [], [], [.slot 7], [], [], [.slot 7]] mixed (by decide +kernel) ?_ | refine awp_condM ?_ | refine And.intro ?_ ?_ | apply gQ_merge | apply gE_merge | exact EqV_w | exact EqE_w | exact EqV_ptr | exact EqE_ptr | exact EqV_msl | exact EqE_msl | exact EqV_agg | exact EqE_agg | exact EqV_fn | exact EqE_fn | exact EqV_gd | exact EqE_gd | refine gM_splitN ?_ ?_ | refine gM_split ?_ ?_ |  refine condM_splitDN ?_ ?_ | refine condM_splitD ?_ ?_ | refine condM_splitN ?_ ?_ | refine condM_split ?_ ?_ | refine condM_any ?_ ?_ | intro _) | (simp [*, hlt, cRider, cStop]))
            all_goals first
              | exact inI64 (by omega) (by omega)
                          | omega
              | (refine loopK_normal _ _ _ _ _ (k + 1) _ ?_ (by first | omega | (dsimp only; omega) | (simp; omega)) ?_; (· omega); (refine le_gen [] ?_ ?_ <;> first | trivial | (simp [*, ke.1, ke.2.1, ke.2.2.1, ke.2.2.2.1, ke.2.2.2.2, mxI]; done)))
              | skip
      · have hke : k = p.stops.length := by omega
        subst hke
        repeat' (first | (with_reducible first | refine awp_seq ?_ | refine awp_blockS ?_ | refine awp_blockC ?_ | refine awp_blockR ?_ | refine awp_skip ?_ | refine awp_ret ?_ | refine awp_exit ?_ | refine awp_region ?_ | refine awp_regionD (id := 2) 9 mixed (by decide +kernel) ?_ | refine awp_regionD (id := 13) 9 mixed (by decide +kernel) ?_ | refine awp_regionD (id := 15) 8 mixed (by decide +kernel) ?_ | refine awp_regionS (id := 20) [0, 1, 2, 3, 4, 5, 6, 7, 9, 10, 11, 12, 13, 14] [8, 15, 16, 17, 18, 19, 20, 21] [[.fld 7 80 2, .fld 7 80 3], [.fld 7 80 2, .fld 7 80 3, .slot 7], [], [], [], [], [], [], [.fld 7 80 2], [.fld 7 80 2], [.fld 7 80 2], [.fld 7 80 2], [.fld 7 80 2], [.fld 7 80 2]] [[.fld 7 80 2], [.fld 7 80 3], [], [], [.slot 7], [], [], [.slot 7]] mixed (by decide +kernel) ?_ | refine awp_condM ?_ | refine And.intro ?_ ?_ | apply gQ_merge | apply gE_merge | exact EqV_w | exact EqE_w | exact EqV_ptr | exact EqE_ptr | exact EqV_msl | exact EqE_msl | exact EqV_agg | exact EqE_agg | exact EqV_fn | exact EqE_fn | exact EqV_gd | exact EqE_gd | refine gM_splitN ?_ ?_ | refine gM_split ?_ ?_ |  refine condM_splitDN ?_ ?_ | refine condM_splitD ?_ ?_ | refine condM_splitN ?_ ?_ | refine condM_split ?_ ?_ | refine condM_any ?_ ?_ | intro _) | (simp [*]))
        all_goals (refine finW_intro () ?_ ?_; (· trivial); (refine le_gen [] ?_ ?_ <;> first | trivial | (simp [*, timesS, seatsS]; done)))
    · repeat' (first | (with_reducible first | refine awp_seq ?_ | refine awp_blockS ?_ | refine awp_blockC ?_ | refine awp_blockR ?_ | refine awp_skip ?_ | refine awp_ret ?_ | refine awp_exit ?_ | refine awp_region ?_ | refine awp_regionD (id := 2) 9 mixed (by decide +kernel) ?_ | refine awp_regionD (id := 13) 9 mixed (by decide +kernel) ?_ | refine awp_regionD (id := 15) 8 mixed (by decide +kernel) ?_ | refine awp_regionS (id := 20) [0, 1, 2, 3, 4, 5, 6, 7, 9, 10, 11, 12, 13, 14] [8, 15, 16, 17, 18, 19, 20, 21] [[.fld 7 80 2, .fld 7 80 3], [.fld 7 80 2, .fld 7 80 3, .slot 7], [], [], [], [], [], [], [.fld 7 80 2], [.fld 7 80 2], [.fld 7 80 2], [.fld 7 80 2], [.fld 7 80 2], [.fld 7 80 2]] [[.fld 7 80 2], [.fld 7 80 3], [], [], [.slot 7], [], [], [.slot 7]] mixed (by decide +kernel) ?_ | refine awp_condM ?_ | refine And.intro ?_ ?_ | apply gQ_merge | apply gE_merge | exact EqV_w | exact EqE_w | exact EqV_ptr | exact EqE_ptr | exact EqV_msl | exact EqE_msl | exact EqV_agg | exact EqE_agg | exact EqV_fn | exact EqE_fn | exact EqV_gd | exact EqE_gd | refine gM_splitN ?_ ?_ | refine gM_split ?_ ?_ |  refine condM_splitDN ?_ ?_ | refine condM_splitD ?_ ?_ | refine condM_splitN ?_ ?_ | refine condM_split ?_ ?_ | refine condM_any ?_ ?_ | intro _) | (simp [*]))
end Go.Proofs.YtiialcomflggcaaDoor
namespace Go.Proofs.YtiialcomflggcaaDoor
open Go Go.Fi
set_option maxRecDepth 20000

/-! ### what is known of a right map, and of a right plan -/
structure MapOk (m : Grid) : Prop where
  l0 : 0 < m.length
  l1 : m.length ≤ 12
  sq : ∀ i, i < m.length → (nth m i).length = m.length
  cell : ∀ i j, i < m.length → j < m.length → 0 ≤ nth (nth m i) j ∧ nth (nth m i) j ≤ 20000
  diag : ∀ i, i < m.length → nth (nth m i) i = 0
theorem cellE_zero {i j : Nat} {t : Int} : cellE i j t = 0 ↔ (0 ≤ t ∧ t ≤ 20000) ∧ (i = j → t = 0) := by
  rw [cellE_eq]
  by_cases hw : winB t 0 20000 = true
  · rw [if_pos hw]
    rw [winB_iff] at hw
    by_cases h : (i : Int) = j ∧ ¬ t = 0
    · rw [if_pos h]; constructor
      · intro h; cases h
      · rintro ⟨_, h2⟩; exact absurd (h2 (by omega)) h.2
    · rw [if_neg h]; simp only [true_iff]
      refine ⟨hw, fun e => ?_⟩
      by_cases ht : t = 0
      · exact ht
      · exact absurd ⟨by omega, ht⟩ h
  · rw [if_neg hw]
    rw [winB_iff] at hw
    constructor
    · intro h; cases h
    · rintro ⟨h1, _⟩; exact absurd h1 hw
theorem rowS_none {i : Nat} : ∀ {r : List Int} {j : Nat}, rowS i r j = none ↔ ∀ k, k < r.length → cellE i (j + k) (nth r k) = 0
  | [], j => by simp [rowS]
  | t :: r, j => by
    unfold rowS
    by_cases h : cellE i j t = 0
    · rw [if_pos h, rowS_none]
      constructor
      · intro hk k hkl
        cases k with
        | zero => simpa using h
        | succ k => have := hk k (by simpa using hkl); rw [Nat.add_assoc, Nat.add_comm 1 k] at this; simpa using this
      · intro hk k hkl
        have := hk (k + 1) (by simpa using hkl)
        rw [Nat.add_assoc, Nat.add_comm 1 k]; simpa using this
    · rw [if_neg h]
      constructor
      · intro h; cases h
      · intro hk; exact absurd (by simpa using hk 0 (by simp)) h
theorem rowS_some {i : Nat} : ∀ {r : List Int} {j : Nat} {x : Int × Int × Int}, rowS i r j = some x → x.2.2 ≠ 0
  | [], j, x, h => by cases h
  | t :: r, j, x, h => by
    unfold rowS at h
    split at h
    · exact rowS_some h
    · rename_i hc; injection h with h; subst h; exact hc
theorem rowsS_zero {n : Nat} : ∀ {m : Grid} {i : Nat}, (rowsS n m i).2.2 = 0 ↔ ∀ k, k < m.length → (nth m k).length = n ∧ ∀ j, j < (nth m k).length → cellE (i + k) j (nth (nth m k) j) = 0
  | [], i => by simp [rowsS]
  | row :: rs, i => by
    unfold rowsS
    by_cases hl : row.length = n
    · rw [if_pos hl]
      cases hr : rowS i row 0 with
      | some x =>
        simp only
        constructor
        · intro h; exact absurd h (rowS_some hr)
        · intro h
          have h0 := (h 0 (by simp)).2
          have : rowS i row 0 = none := rowS_none.2 (fun k hk => by simpa using h0 k (by simpa using hk))
          rw [this] at hr; cases hr
      | none =>
        simp only
        rw [rowsS_zero]
        have h0 := rowS_none.1 hr
        constructor
        · intro h k hk
          cases k with
          | zero => exact ⟨by simpa using hl, fun j hj => by simpa using h0 j (by simpa using hj)⟩
          | succ k => have := h k (by simpa using hk); rw [Nat.add_assoc, Nat.add_comm 1 k] at this; simpa using this
        · intro h k hk
          have := h (k + 1) (by simpa using hk)
          rw [Nat.add_assoc, Nat.add_comm 1 k]; simpa using this
    · rw [if_neg hl]
      constructor
      · intro h; cases h
      · intro h; exact absurd (by simpa using (h 0 (by simp)).1) hl
theorem mapS_ok {m : Grid} : (mapS m).2.2 = 0 ↔ MapOk m := by
  unfold mapS
  by_cases h0 : m.length = 0
  · rw [if_pos h0]
    constructor
    · intro h; cases h
    · intro h; have := h.l0; omega
  · rw [if_neg h0]
    by_cases h1 : 12 < m.length
    · rw [if_pos h1]
      constructor
      · intro h; cases h
      · intro h; have := h.l1; omega
    · rw [if_neg h1, rowsS_zero]
      constructor
      · intro h
        refine ⟨by omega, by omega, fun i hi => (h i hi).1, fun i j hi hj => ?_, fun i hi => ?_⟩
        · have := (h i hi).2 j (by rw [(h i hi).1]; exact hj)
          exact (cellE_zero.1 this).1
        · have := (h i hi).2 i (by rw [(h i hi).1]; exact hi)
          exact (cellE_zero.1 this).2 (by omega)
      · intro h k hk
        refine ⟨h.sq k hk, fun j hj => cellE_zero.2 ⟨h.cell k j hk (by rw [h.sq k hk] at hj; exact hj), fun e => ?_⟩⟩
        have e : k = j := by omega
        subst e; exact h.diag k hk
/-- a plan of a right map is right -/
structure PlanOk (m : Grid) (p : Plan) : Prop where
  at0 : 0 ≤ p.car.at_
  at1 : p.car.at_ < m.length
  t0 : 0 ≤ p.car.time
  t1 : p.car.time ≤ 1000000
  s0 : 1 ≤ p.car.seats
  s1 : p.car.seats ≤ 8
  rl : p.riders.length ≤ 6
  riders : ∀ k, k < p.riders.length → riderE m (p.riders.take k) (nth p.riders k) = 0
  ab : aboardS p.riders ≤ p.car.seats
  stops : ∀ k, k < p.stops.length → stopE p k (nth p.stops k) = 0
  gaps : ∀ j, j < p.riders.length → elemB p.stops ⟨(j : Int), true⟩ = true
theorem firstS_all {l : List Int} : firstS l = 0 ↔ ∀ e ∈ l, e = 0 := by
  induction l with
  | nil => simp [firstS]
  | cons x l ih =>
    unfold firstS
    by_cases h : x = 0
    · rw [if_pos h, ih]; simp [h]
    · rw [if_neg h]; simp [h]
theorem errU_zero {b : Bool} {e : Int} (he : e ≠ 0) : errUnless b e = 0 ↔ b = true := by
  cases b <;> simp [errUnless, he]
theorem ridersE_none {m : Grid} {l : List Rider} : ∀ (n k : Nat), n + k = l.length → (ridersE m l (l.drop k) k = none ↔ ∀ j, k ≤ j → j < l.length → riderE m (l.take j) (nth l j) = 0)
  | 0, k, h => by
    have : k = l.length := by omega
    subst this
    rw [ridersE_end]; simp; intros; omega
  | n + 1, k, h => by
    rw [ridersE_step (by omega)]
    by_cases hc : riderE m (l.take k) (nth l k) = 0
    · rw [if_pos hc, ridersE_none n (k + 1) (by omega)]
      constructor
      · intro hj j h1 h2
        rcases Nat.eq_or_lt_of_le h1 with rfl | h3
        · exact hc
        · exact hj j h3 h2
      · intro hj j h1 h2; exact hj j (by omega) h2
    · rw [if_neg hc]
      constructor
      · intro h; cases h
      · intro hj; exact absurd (hj k (Nat.le_refl _) (by omega)) hc
theorem stopsE_none {p : Plan} : ∀ (n k : Nat), n + k = p.stops.length → (stopsE p (p.stops.drop k) k = none ↔ ∀ j, k ≤ j → j < p.stops.length → stopE p j (nth p.stops j) = 0)
  | 0, k, h => by
    have : k = p.stops.length := by omega
    subst this
    rw [stopsE_end]; simp; intros; omega
  | n + 1, k, h => by
    rw [stopsE_step (by omega)]
    by_cases hc : stopE p k (nth p.stops k) = 0
    · rw [if_pos hc, stopsE_none n (k + 1) (by omega)]
      constructor
      · intro hj j h1 h2
        rcases Nat.eq_or_lt_of_le h1 with rfl | h3
        · exact hc
        · exact hj j h3 h2
      · intro hj j h1 h2; exact hj j (by omega) h2
    · rw [if_neg hc]
      constructor
      · intro h; cases h
      · intro hj; exact absurd (hj k (Nat.le_refl _) (by omega)) hc
theorem gapsE_none {p : Plan} : ∀ (n k : Nat), n + k = p.riders.length → (gapsE p n k = none ↔ ∀ j, k ≤ j → j < p.riders.length → elemB p.stops ⟨(j : Int), true⟩ = true)
  | 0, k, h => by
    unfold gapsE; simp; intros; omega
  | n + 1, k, h => by
    unfold gapsE
    by_cases hc : gapE p k = 0
    · rw [if_pos hc, gapsE_none n (k + 1) (by omega)]
      have hc2 := (errU_zero (by decide)).1 hc
      constructor
      · intro hj j h1 h2
        rcases Nat.eq_or_lt_of_le h1 with rfl | h3
        · exact hc2
        · exact hj j h3 h2
      · intro hj j h1 h2; exact hj j (by omega) h2
    · rw [if_neg hc]
      constructor
      · intro h; cases h
      · intro hj; exact absurd ((errU_zero (by decide)).2 (hj k (Nat.le_refl _) (by omega))) hc
theorem ridersE_some {m : Grid} {l : List Rider} : ∀ {r : List Rider} {i : Nat} {x : Int × Int}, ridersE m l r i = some x → x.2 ≠ 0
  | [], i, x, h => by cases h
  | s :: r, i, x, h => by
    unfold ridersE at h
    split at h
    · exact ridersE_some h
    · rename_i hc; injection h with h; subst h; exact hc
theorem stopsE_some {p : Plan} : ∀ {r : List Stop} {i : Nat} {x : Int × Int}, stopsE p r i = some x → x.2 ≠ 0
  | [], i, x, h => by cases h
  | s :: r, i, x, h => by
    unfold stopsE at h
    split at h
    · exact stopsE_some h
    · rename_i hc; injection h with h; subst h; exact hc
theorem gapsE_some {p : Plan} : ∀ {n i : Nat} {x : Int × Int}, gapsE p n i = some x → x.2 ≠ 0
  | 0, i, x, h => by cases h
  | n + 1, i, x, h => by
    unfold gapsE at h
    split at h
    · exact gapsE_some h
    · injection h with h; subst h; exact (by decide : (14 : Int) ≠ 0)
theorem carE_zero {m : Grid} {p : Plan} : carE m p = 0 ↔ (0 ≤ p.car.at_ ∧ p.car.at_ < m.length) ∧ ((0 ≤ p.car.time ∧ p.car.time ≤ 1000000) ∧ 1 ≤ p.car.seats ∧ p.car.seats ≤ 8) ∧ p.riders.length ≤ 6 := by
  unfold carE
  rw [firstS_all]
  simp only [List.mem_cons, List.not_mem_nil, or_false, forall_eq_or_imp, forall_eq, errU_zero (show (6 : Int) ≠ 0 by decide), errU_zero (show (2 : Int) ≠ 0 by decide), errU_zero (show (8 : Int) ≠ 0 by decide), placeB, Bool.and_eq_true, winB_iff, decide_eq_true_eq]
  omega
theorem planS_ok {m : Grid} {p : Plan} : (planS m p).2 = 0 ↔ PlanOk m p := by
  unfold planS
  by_cases hc : carE m p = 0
  · rw [if_pos hc]
    have c := carE_zero.1 hc
    unfold plan1
    cases h1 : ridersE m p.riders p.riders 0 with
    | some x =>
      constructor
      · intro h; exact absurd h (ridersE_some h1)
      · intro h
        have := (ridersE_none (m := m) (l := p.riders) p.riders.length 0 (by omega)).2 (fun j _ hj => h.riders j hj)
        rw [List.drop_zero, h1] at this; cases this
    | none =>
      have r1 := (ridersE_none (m := m) (l := p.riders) p.riders.length 0 (by omega)).1 h1
      simp only
      by_cases h2 : p.car.seats < aboardS p.riders
      · rw [if_pos h2]
        constructor
        · intro h; cases h
        · intro h; have := h.ab; omega
      · rw [if_neg h2]
        unfold plan2
        cases h3 : stopsE p p.stops 0 with
        | some x =>
          constructor
          · intro h; exact absurd h (stopsE_some h3)
          · intro h
            have := (stopsE_none (p := p) p.stops.length 0 (by omega)).2 (fun j _ hj => h.stops j hj)
            rw [List.drop_zero, h3] at this; cases this
        | none =>
          have r2 := (stopsE_none (p := p) p.stops.length 0 (by omega)).1 h3
          simp only
          unfold plan3
          cases h4 : gapsE p p.riders.length 0 with
          | some x =>
            constructor
            · intro h; exact absurd h (gapsE_some h4)
            · intro h
              have := (gapsE_none (p := p) p.riders.length 0 (by omega)).2 (fun j _ hj => h.gaps j hj)
              rw [h4] at this; cases this
          | none =>
            have r3 := (gapsE_none (p := p) p.riders.length 0 (by omega)).1 h4
            simp only [true_iff]
            exact ⟨c.1.1, c.1.2, c.2.1.1.1, c.2.1.1.2, c.2.1.2.1, c.2.1.2.2, c.2.2, fun k hk => r1 k (Nat.zero_le _) hk, by omega, fun k hk => r2 k (Nat.zero_le _) hk, fun j hj => r3 j (Nat.zero_le _) hj⟩
  · rw [if_neg hc]
    constructor
    · intro h; exact absurd h hc
    · intro h
      exact absurd (carE_zero.2 ⟨⟨h.at0, h.at1⟩, ⟨⟨h.t0, h.t1⟩, h.s0, h.s1⟩, h.rl⟩) hc
theorem planS_zero {m : Grid} {p : Plan} (ok : PlanOk m p) : planS m p = (0, 0) := by
  unfold planS
  rw [if_pos (carE_zero.2 ⟨⟨ok.at0, ok.at1⟩, ⟨⟨ok.t0, ok.t1⟩, ok.s0, ok.s1⟩, ok.rl⟩)]
  unfold plan1
  have r1 := (ridersE_none (m := m) (l := p.riders) p.riders.length 0 (by omega)).2 (fun j _ hj => ok.riders j hj)
  rw [List.drop_zero] at r1
  rw [r1]
  simp only
  rw [if_neg (by have := ok.ab; omega)]
  unfold plan2
  have r2 := (stopsE_none (p := p) p.stops.length 0 (by omega)).2 (fun j _ hj => ok.stops j hj)
  rw [List.drop_zero] at r2
  rw [r2]
  simp only
  unfold plan3
  rw [(gapsE_none (p := p) p.riders.length 0 (by omega)).2 (fun j _ hj => ok.gaps j hj)]
theorem checkS_ok {m : Grid} {p : Plan} : (checkS m p).2 = 0 ↔ MapOk m ∧ PlanOk m p := by
  unfold checkS
  by_cases h : (mapS m).2.2 = 0
  · rw [if_pos h, planS_ok]
    exact ⟨fun hp => ⟨mapS_ok.1 h, hp⟩, fun hp => hp.2⟩
  · rw [if_neg h]
    constructor
    · intro h2; exact absurd h2 h
    · intro h2; exact absurd (mapS_ok.2 h2.1) h
theorem checkS_zero {m : Grid} {p : Plan} (h : MapOk m) (hp : PlanOk m p) : checkS m p = (0, 0) := by
  unfold checkS
  rw [if_pos (mapS_ok.2 h), planS_zero hp]
theorem stopE_ok {p : Plan} {i : Nat} {s : Stop} : stopE p i s = 0 ↔ (0 ≤ s.rider ∧ s.rider < p.riders.length) ∧ elemB (p.stops.take i) s = false ∧ (s.out = true ∨ abB p s = false) ∧ (s.out = false ∨ abB p s = true ∨ elemB (p.stops.take i) ⟨s.rider, false⟩ = true) := by
  unfold stopE
  by_cases hw : winB s.rider 0 ((p.riders.length : Int) - 1) = true
  · rw [if_pos hw, firstS_all]
    rw [winB_iff] at hw
    simp only [List.mem_cons, List.not_mem_nil, or_false, forall_eq_or_imp, forall_eq, errU_zero (show (26 : Int) ≠ 0 by decide), errU_zero (show (22 : Int) ≠ 0 by decide), errU_zero (show (9 : Int) ≠ 0 by decide), Bool.or_eq_true, Bool.not_eq_true']
    constructor
    · rintro ⟨h1, h2, h3⟩; exact ⟨⟨by omega, by omega⟩, h1, h2, h3⟩
    · rintro ⟨_, h1, h2, h3⟩; exact ⟨h1, h2, h3⟩
  · rw [if_neg hw]
    rw [winB_iff] at hw
    constructor
    · intro h; cases h
    · rintro ⟨h, _⟩; exact absurd ⟨h.1, by omega⟩ hw
theorem elemB_iff {l : List Stop} {s : Stop} : elemB l s = true ↔ s ∈ l := by
  unfold elemB
  rw [List.any_eq_true]
  constructor
  · rintro ⟨x, hx, h⟩; rw [stopEq_iff] at h; rw [h]; exact hx
  · intro h; exact ⟨s, h, (stopEq_iff _ _).2 rfl⟩
/-- what a drive needs beyond its times: who gets out has got in -/
structure TourOk (m : Grid) (p : Plan) : Prop where
  go : DriveOk m p
  ins : ∀ i, i < p.stops.length → (nth p.stops i).out = true → (riderOf p (nth p.stops i)).aboard = true ∨ (⟨(nth p.stops i).rider, false⟩ : Stop) ∈ p.stops
theorem nth_take {α : Type} [Inhabited α] (l : List α) (k j : Nat) (h : j < k) : nth (l.take k) j = nth l j := by
  simp [nth, List.getD_eq_getElem?_getD, List.getElem?_take, h]
theorem PlanOk.tour {m : Grid} {p : Plan} (hm : MapOk m) (h : PlanOk m p) (hs : p.stops.length < 10000) : TourOk m p := by
  refine ⟨⟨by have := hm.l1; omega, hm.sq, hm.cell, h.at0, h.at1, h.t0, h.t1, by have := h.rl; omega, hs, fun j hj => (riderE_ok (h.riders j hj)).1, fun i hi => ?_⟩, fun i hi ho => ?_⟩
  · exact (stopE_ok.1 (h.stops i hi)).1
  · have := (stopE_ok.1 (h.stops i hi)).2.2.2
    rcases this with h1 | h1 | h1
    · rw [ho] at h1; cases h1
    · exact .inl h1
    · exact .inr (List.mem_of_mem_take (elemB_iff.1 h1))
end Go.Proofs.YtiialcomflggcaaDoor

