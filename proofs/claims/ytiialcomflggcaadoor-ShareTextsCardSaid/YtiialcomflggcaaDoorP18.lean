/- Contracts of functions for this claim: lemmas alone. -/
import Derived.Test.YtiialcomflggcaaDoorP16
import Derived.Test.YtiialcomflggcaaDoorLn
import Derived.Shelf.Spec.SlicesGrow
set_option linter.unusedSimpArgs false
set_option linter.unusedVariables false
namespace Go.Proofs.YtiialcomflggcaaDoor
open Go Go.Fi
set_option maxRecDepth 20000

/-- where the library's own text of slices.Grow lies in the program -/
def growRen : Go.Shelf.Ren := ⟨fun | 4 => 87 | n => n, fun | 22 => 27 | 25 => 52 | n => n, fun n => n⟩
theorem laysGrow : Lays8.n4 Tryd.prog growRen where
  mixed := by kernel_rfl
  f4 := ⟨Tryd.f87.name, by kernel_rfl, Tryd.func87.trans (congrArg some (by kernel_rfl))⟩
  t0 := Tryd.underlying0
  a0 := Tryd.isAgg0
  z0 := Tryd.sizeOf0
  v0 := Tryd.zeroValue0
  t3 := Tryd.underlying3
  a3 := Tryd.isAgg3
  z3 := Tryd.sizeOf3
  v3 := Tryd.zeroValue3
  t4 := Tryd.underlying4
  a4 := Tryd.isAgg4
  z4 := Tryd.sizeOf4
  v4 := Tryd.zeroValue4
  t9 := Tryd.underlying9
  a9 := Tryd.isAgg9
  z9 := Tryd.sizeOf9
  v9 := Tryd.zeroValue9
  t20 := Tryd.underlying20
  a20 := Tryd.isAgg20
  z20 := Tryd.sizeOf20
  v20 := Tryd.zeroValue20
  t22 := Tryd.underlying27
  a22 := Tryd.isAgg27
  z22 := Tryd.sizeOf27
  v22 := Tryd.zeroValue27

theorem info69 : (Tryd.prog.info? 52).map (fun i => (i.size, decide (i.bytes ≤ 1000), i.zero.map (·.cells.size))) = some (8, true, some 8) := by kernel_rfl
theorem growC : GrowC Tryd.prog 87 8 := by
  have h := info69
  cases hi : Tryd.prog.info? 52 with
  | none => rw [hi] at h; cases h
  | some i =>
    rw [hi] at h
    simp only [Option.map_some, Option.some.injEq, Prod.mk.injEq, decide_eq_true_eq] at h
    obtain ⟨h1, h2, h3⟩ := h
    cases hz : i.zero with
    | none => rw [hz] at h3; cases h3
    | some z =>
      rw [hz] at h3
      have h3 : z.cells.size = 8 := by simpa using h3
      refine ⟨⟨Tryd.f87, Tryd.func87, by kernel_rfl, by kernel_rfl⟩, fun w => ?_, fun k w h0 hk => ?_⟩
      · exact Any8.slices_Grow_room laysGrow none 0 0 0 w (Nat.le_refl _) (by decide) (by decide) (Nat.le_refl _)
      · have hb : k * i.bytes ≤ 1000000 * 1000 := Nat.mul_le_mul hk h2
        refine (Any8.slices_Grow_grow laysGrow i z hi hz (by omega) none 0 0 k [] w (Nat.le_refl _) (by omega) (by rw [Nat.zero_add]; omega) (by omega) (by simp) (fun _ => rfl) (fun a h => by cases h)).mono ?_
        rintro e w' ⟨rfl, rfl⟩
        refine ⟨_, _, _, ?_, rfl, rfl⟩
        have hG := grownCap_ge w (0 + k) 0 (growRen.t 25)
        simp only [Nat.zero_add] at hG ⊢
        simp only [Array.size_append, size_zeroCells, h3]
        simp
        omega

/-! ### slices of riders, and of stops, that grow -/
theorem cRider_one (r : Rider) : (cRider r).all oneP = true := rfl
theorem cRider_flat (r : Rider) : flatL (cRider r) = true := rfl
theorem flatL_app : ∀ a b : List PV, flatL (a ++ b) = (flatL a && flatL b)
  | [], b => rfl
  | x :: a, b => by simp [flatL, flatL_app a b, Bool.and_assoc]
@[simp] theorem cRiders_one : ∀ l : List Rider, (cRiders l).all oneP = true
  | [] => rfl
  | r :: l => by unfold cRiders; rw [List.flatMap_cons, List.all_append, cRider_one]; exact cRiders_one l
@[simp] theorem cRiders_flat : ∀ l : List Rider, flatL (cRiders l) = true
  | [] => rfl
  | r :: l => by unfold cRiders; rw [List.flatMap_cons, flatL_app, cRider_flat]; exact cRiders_flat l
theorem cRiders_app (a b : List Rider) : cRiders (a ++ b) = cRiders a ++ cRiders b := by simp [cRiders]
def rA (l : List Rider) : List AV := (cRiders l).map (.w false false)
@[simp] theorem rA_len (l : List Rider) : (rA l).length = l.length * 8 := by simp [rA]
@[simp] theorem rA_nil : rA [] = [] := rfl
@[simp] theorem rA_app (a b : List Rider) : rA a ++ (cRiders b).map (.w false false) = rA (a ++ b) := by simp [rA, cRiders_app]
@[simp] theorem rA_lt (l : List Rider) (n : Nat) : AV.lt.ltL n (rA l) = true := ltL_map n false false _
@[simp] theorem rA_self {D : List Nat} {h : Heap} {n n' : Nat} (l : List Rider) : cellsLe D h n n' (rA l) (rA l) = True := eq_true (cellsLe_w false false _)
@[simp high] theorem rA_frz (h : Heap) (d : Nat) (l : List Rider) : (rA l).mapM (frz h d) = some (cRiders l) := mapM_frz h d false false _
@[simp high] theorem rA_fresh (h : Heap) (d : Nat) (l : List Rider) : (rA l).all (freshA h d) = true := all_flat h d false false _ (cRiders_flat l)
def cat2 (a b : List Rider) : Nat → List Rider
  | 0 => []
  | 1 => a
  | _ => a ++ b
@[simp] theorem cat2_0 (a b : List Rider) : cat2 a b 0 = [] := rfl
@[simp] theorem cat2_1 (a b : List Rider) : cat2 a b 1 = a := rfl
@[simp] theorem cat2_2 (a b : List Rider) : cat2 a b 2 = a ++ b := rfl
set_option maxHeartbeats 4000000 in
theorem concat_c (a b : List Rider) (ha : a.length < 100000) (hb : b.length < 100000) : RealCall Tryd.prog 76 [.sl 2 [.sl a.length (cRiders a), .sl b.length (cRiders b)]] (.sl (a ++ b).length (cRiders (a ++ b))) true := by
  refine realcall_intro Tryd.func76 (by kernel_rfl) rfl (Nat.le_of_ble_eq_true (by kernel_rfl)) ?_
  simp only [Tryd.results76, Tryd.ntmps76]
  repeat' (first | (with_reducible first | refine awp_seq ?_ | refine awp_blockS ?_ | refine awp_blockC ?_ | refine awp_blockR ?_ | refine awp_skip ?_ | refine awp_ret ?_ | refine awp_exit ?_ | refine awp_region ?_ | refine awp_condM ?_ | refine And.intro ?_ ?_ | apply gQ_merge | apply gE_merge | exact EqV_w | exact EqE_w | exact EqV_ptr | exact EqE_ptr | exact EqV_msl | exact EqE_msl | exact EqV_agg | exact EqE_agg | exact EqV_fn | exact EqE_fn | exact EqV_gd | exact EqE_gd | refine gM_splitN ?_ ?_ | refine gM_split ?_ ?_ |  refine condM_splitDN ?_ ?_ | refine condM_splitD ?_ ?_ | refine condM_splitN ?_ ?_ | refine condM_split ?_ ?_ | refine condM_any ?_ ?_ | intro _) | (simp [*]))
  refine awp_for3 (fun (k : Nat) => k ≤ 2) [0, 9, 10] (fun (k : Nat) => [(11, .w false false (.int .i64 k)), (3, .w false false (.int .i64 (cat2 a b k).length))]) [] (fun (k : Nat) => []) (fun (k : Nat) => 2 - k) (fun (_u : Unit) => True) [0] (fun (_u : Unit) => [(3, .w false false (.int .i64 (a ++ b).length))]) [] (fun (_u : Unit) => []) (0) (Nat.zero_le _) (by simp) (by simp) (fun k hk => ?_) (fun _u hf => ?_)
  · have h1 : ¬ (a.length : Int) < 0 := by omega
    have h2 : ¬ (a.length : Int) + (b.length : Int) < 0 := by omega
    match k, hk with
    | 0, _ =>
      repeat' (first | (with_reducible first | refine awp_seq ?_ | refine awp_blockS ?_ | refine awp_blockC ?_ | refine awp_blockR ?_ | refine awp_skip ?_ | refine awp_ret ?_ | refine awp_exit ?_ | refine awp_region ?_ | refine awp_condM ?_ | refine And.intro ?_ ?_ | apply gQ_merge | apply gE_merge | exact EqV_w | exact EqE_w | exact EqV_ptr | exact EqE_ptr | exact EqV_msl | exact EqE_msl | exact EqV_agg | exact EqE_agg | exact EqV_fn | exact EqE_fn | exact EqV_gd | exact EqE_gd | refine gM_splitN ?_ ?_ | refine gM_split ?_ ?_ |  refine condM_splitDN ?_ ?_ | refine condM_splitD ?_ ?_ | refine condM_splitN ?_ ?_ | refine condM_split ?_ ?_ | refine condM_any ?_ ?_ | intro _) | (simp [*]))
      all_goals first
        | exact inI64 (by omega) (by omega)
        | omega
        | (refine loopK_normal _ _ _ _ _ 1 _ ?_ (by first | omega | (dsimp only; omega) | (simp; omega)) ?_; (· decide); (refine le_of ?_ ?_ <;> first | trivial | (simp [*]; done)))
        | skip
    | 1, _ =>
      repeat' (first | (with_reducible first | refine awp_seq ?_ | refine awp_blockS ?_ | refine awp_blockC ?_ | refine awp_blockR ?_ | refine awp_skip ?_ | refine awp_ret ?_ | refine awp_exit ?_ | refine awp_region ?_ | refine awp_condM ?_ | refine And.intro ?_ ?_ | apply gQ_merge | apply gE_merge | exact EqV_w | exact EqE_w | exact EqV_ptr | exact EqE_ptr | exact EqV_msl | exact EqE_msl | exact EqV_agg | exact EqE_agg | exact EqV_fn | exact EqE_fn | exact EqV_gd | exact EqE_gd | refine gM_splitN ?_ ?_ | refine gM_split ?_ ?_ |  refine condM_splitDN ?_ ?_ | refine condM_splitD ?_ ?_ | refine condM_splitN ?_ ?_ | refine condM_split ?_ ?_ | refine condM_any ?_ ?_ | intro _) | (simp [*]))
      all_goals first
        | exact inI64 (by omega) (by omega)
        | omega
        | (refine loopK_normal _ _ _ _ _ 2 _ ?_ (by first | omega | (dsimp only; omega) | (simp; omega)) ?_; (· decide); (refine le_of ?_ ?_ <;> first | trivial | (simp [*]; done)))
        | skip
    | 2, _ =>
      repeat' (first | (with_reducible first | refine awp_seq ?_ | refine awp_blockS ?_ | refine awp_blockC ?_ | refine awp_blockR ?_ | refine awp_skip ?_ | refine awp_ret ?_ | refine awp_exit ?_ | refine awp_region ?_ | refine awp_condM ?_ | refine And.intro ?_ ?_ | apply gQ_merge | apply gE_merge | exact EqV_w | exact EqE_w | exact EqV_ptr | exact EqE_ptr | exact EqV_msl | exact EqE_msl | exact EqV_agg | exact EqE_agg | exact EqV_fn | exact EqE_fn | exact EqV_gd | exact EqE_gd | refine gM_splitN ?_ ?_ | refine gM_split ?_ ?_ |  refine condM_splitDN ?_ ?_ | refine condM_splitD ?_ ?_ | refine condM_splitN ?_ ?_ | refine condM_split ?_ ?_ | refine condM_any ?_ ?_ | intro _) | (simp [*]))
      all_goals (refine finW_intro () ?_ ?_; (· trivial); (refine le_of ?_ ?_ <;> first | trivial | (simp [*]; done)))
  · simp
    refine awp_seq ?_
    refine awp_grow growC (ow := false) (fl := false) (k := (a ++ b).length) rfl (by simp [Fi.get]) (by simp; omega) (by decide) (by decide) ?_
    repeat' (first | (with_reducible first | refine awp_seq ?_ | refine awp_blockS ?_ | refine awp_blockC ?_ | refine awp_blockR ?_ | refine awp_skip ?_ | refine awp_ret ?_ | refine awp_exit ?_ | refine awp_region ?_ | refine awp_condM ?_ | refine And.intro ?_ ?_ | apply gQ_merge | apply gE_merge | exact EqV_w | exact EqE_w | exact EqV_ptr | exact EqE_ptr | exact EqV_msl | exact EqE_msl | exact EqV_agg | exact EqE_agg | exact EqV_fn | exact EqE_fn | exact EqV_gd | exact EqE_gd | refine gM_splitN ?_ ?_ | refine gM_split ?_ ?_ |  refine condM_splitDN ?_ ?_ | refine condM_splitD ?_ ?_ | refine condM_splitN ?_ ?_ | refine condM_split ?_ ?_ | refine condM_any ?_ ?_ | intro _) | (simp [*]))
    refine awp_for3 (fun (k : Nat) => k ≤ 2) [25, 26] (fun (k : Nat) => [(27, .w false false (.int .i64 k)), (6, .msl 0 ((cat2 a b k).length * 8) 8 0 (cat2 a b k).length)]) [] (fun (k : Nat) => [(0, rA (cat2 a b k))]) (fun (k : Nat) => 2 - k) (fun (_u : Unit) => True) [] (fun (_u : Unit) => [(6, .msl 0 ((a ++ b).length * 8) 8 0 (a ++ b).length)]) [] (fun (_u : Unit) => [(0, rA (a ++ b))]) (0) (Nat.zero_le _) (by simp) (by simp) (fun k hk => ?_) (fun _u hf => ?_)
    · match k, hk with
      | 0, _ =>
        repeat' (first | (with_reducible first | refine awp_seq ?_ | refine awp_blockS ?_ | refine awp_blockC ?_ | refine awp_blockR ?_ | refine awp_skip ?_ | refine awp_ret ?_ | refine awp_exit ?_ | refine awp_region ?_ | refine awp_condM ?_ | refine And.intro ?_ ?_ | apply gQ_merge | apply gE_merge | exact EqV_w | exact EqE_w | exact EqV_ptr | exact EqE_ptr | exact EqV_msl | exact EqE_msl | exact EqV_agg | exact EqE_agg | exact EqV_fn | exact EqE_fn | exact EqV_gd | exact EqE_gd | refine gM_splitN ?_ ?_ | refine gM_split ?_ ?_ |  refine condM_splitDN ?_ ?_ | refine condM_splitD ?_ ?_ | refine condM_splitN ?_ ?_ | refine condM_split ?_ ?_ | refine condM_any ?_ ?_ | intro _) | (simp [*]))
        all_goals first
          | exact inI64 (by omega) (by omega)
          | omega
          | (refine loopK_normal _ _ _ _ _ 1 _ ?_ (by first | omega | (dsimp only; omega) | (simp; omega)) ?_; (· decide); (refine le_of ?_ ?_ <;> first | trivial | (simp [*, rA]; done)))
          | skip
      | 1, _ =>
        repeat' (first | (with_reducible first | refine awp_seq ?_ | refine awp_blockS ?_ | refine awp_blockC ?_ | refine awp_blockR ?_ | refine awp_skip ?_ | refine awp_ret ?_ | refine awp_exit ?_ | refine awp_region ?_ | refine awp_condM ?_ | refine And.intro ?_ ?_ | apply gQ_merge | apply gE_merge | exact EqV_w | exact EqE_w | exact EqV_ptr | exact EqE_ptr | exact EqV_msl | exact EqE_msl | exact EqV_agg | exact EqE_agg | exact EqV_fn | exact EqE_fn | exact EqV_gd | exact EqE_gd | refine gM_splitN ?_ ?_ | refine gM_split ?_ ?_ |  refine condM_splitDN ?_ ?_ | refine condM_splitD ?_ ?_ | refine condM_splitN ?_ ?_ | refine condM_split ?_ ?_ | refine condM_any ?_ ?_ | intro _) | (simp [*, Nat.add_mul]))
        all_goals first
          | exact inI64 (by omega) (by omega)
          | omega
          | (refine loopK_normal _ _ _ _ _ 2 _ ?_ (by first | omega | (dsimp only; omega) | (simp; omega)) ?_; (· decide); (refine le_of ?_ ?_ <;> first | trivial | (simp [*, Nat.add_mul]; done)))
          | skip
      | 2, _ =>
        repeat' (first | (with_reducible first | refine awp_seq ?_ | refine awp_blockS ?_ | refine awp_blockC ?_ | refine awp_blockR ?_ | refine awp_skip ?_ | refine awp_ret ?_ | refine awp_exit ?_ | refine awp_region ?_ | refine awp_condM ?_ | refine And.intro ?_ ?_ | apply gQ_merge | apply gE_merge | exact EqV_w | exact EqE_w | exact EqV_ptr | exact EqE_ptr | exact EqV_msl | exact EqE_msl | exact EqV_agg | exact EqE_agg | exact EqV_fn | exact EqE_fn | exact EqV_gd | exact EqE_gd | refine gM_splitN ?_ ?_ | refine gM_split ?_ ?_ |  refine condM_splitDN ?_ ?_ | refine condM_splitD ?_ ?_ | refine condM_splitN ?_ ?_ | refine condM_split ?_ ?_ | refine condM_any ?_ ?_ | intro _) | (simp [*]))
        all_goals (refine finW_intro () ?_ ?_; (· trivial); (refine le_of ?_ ?_ <;> first | trivial | (simp [*]; done)))
    · repeat' (first | (with_reducible first | refine awp_seq ?_ | refine awp_blockS ?_ | refine awp_blockC ?_ | refine awp_blockR ?_ | refine awp_skip ?_ | refine awp_ret ?_ | refine awp_exit ?_ | refine awp_region ?_ | refine awp_condM ?_ | refine And.intro ?_ ?_ | apply gQ_merge | apply gE_merge | exact EqV_w | exact EqE_w | exact EqV_ptr | exact EqE_ptr | exact EqV_msl | exact EqE_msl | exact EqV_agg | exact EqE_agg | exact EqV_fn | exact EqE_fn | exact EqV_gd | exact EqE_gd | refine gM_splitN ?_ ?_ | refine gM_split ?_ ?_ |  refine condM_splitDN ?_ ?_ | refine condM_splitD ?_ ?_ | refine condM_splitN ?_ ?_ | refine condM_split ?_ ?_ | refine condM_any ?_ ?_ | intro _) | (simp [*]))
end Go.Proofs.YtiialcomflggcaaDoor
namespace Go.Proofs.YtiialcomflggcaaDoor
open Go Go.Fi
set_option maxRecDepth 20000

theorem cStop_one (r : Stop) : (cStop r).all oneP = true := rfl
theorem cStop_flat (r : Stop) : flatL (cStop r) = true := rfl
@[simp] theorem cStops_one : ∀ l : List Stop, (cStops l).all oneP = true
  | [] => rfl
  | r :: l => by unfold cStops; rw [List.flatMap_cons, List.all_append, cStop_one]; exact cStops_one l
@[simp] theorem cStops_flat : ∀ l : List Stop, flatL (cStops l) = true
  | [] => rfl
  | r :: l => by unfold cStops; rw [List.flatMap_cons, flatL_app, cStop_flat]; exact cStops_flat l
theorem cStops_app (a b : List Stop) : cStops (a ++ b) = cStops a ++ cStops b := by simp [cStops]
def sA (l : List Stop) : List AV := (cStops l).map (.w false false)
@[simp] theorem sA_len (l : List Stop) : (sA l).length = l.length * 2 := by simp [sA]
@[simp] theorem sA_nil : sA [] = [] := rfl
@[simp] theorem sA_snoc (a : List Stop) (x : Int) (o : Bool) : sA a ++ [.w false false (.int .i64 x), .w false false (.bool o)] = sA (a ++ [⟨x, o⟩]) := by simp [sA, cStops_app, cStops, cStop]
@[simp] theorem sA_lt (l : List Stop) (n : Nat) : AV.lt.ltL n (sA l) = true := ltL_map n false false _
@[simp] theorem sA_self {D : List Nat} {h : Heap} {n n' : Nat} (l : List Stop) : cellsLe D h n n' (sA l) (sA l) = True := eq_true (cellsLe_w false false _)
@[simp high] theorem sA_frz (h : Heap) (d : Nat) (l : List Stop) : (sA l).mapM (frz h d) = some (cStops l) := mapM_frz h d false false _
@[simp high] theorem sA_fresh (h : Heap) (d : Nat) (l : List Stop) : (sA l).all (freshA h d) = true := all_flat h d false false _ (cStops_flat l)
@[simp] theorem cStops_cons (s : Stop) (l : List Stop) : cStops (s :: l) = .int .i64 s.rider :: .bool s.out :: cStops l := by simp [cStops, cStop]
@[simp] theorem cStops_all (l : List Stop) : (cStops l).take (l.length * 2) = cStops l := by rw [cStops_take, List.take_length]

/-! ### a rider more -/
def cntK (i o k : Nat) : Nat := k - (if i < k then 1 else 0) - (if o < k then 1 else 0)
def insAt (p : Plan) (i o k : Nat) : Stop := if k = i then ⟨(p.riders.length : Int), false⟩ else if k = o then ⟨(p.riders.length : Int), true⟩ else nth p.stops (cntK i o k)
def insK (p : Plan) (i o : Nat) : Nat → List Stop
  | 0 => []
  | k + 1 => insK p i o k ++ [insAt p i o k]
@[simp] theorem insK_zero (p : Plan) (i o : Nat) : insK p i o 0 = [] := rfl
@[simp] theorem insK_len (p : Plan) (i o : Nat) : ∀ k, (insK p i o k).length = k
  | 0 => rfl
  | k + 1 => by simp [insK, insK_len p i o k]
def insS (p : Plan) (r : Rider) (i o : Nat) : Plan := ⟨p.car, p.riders ++ [r], insK p i o (p.stops.length + 2)⟩
theorem cntK_i {i o : Nat} (h : i < o) : cntK i o (i + 1) = cntK i o i := by
  unfold cntK
  repeat' split
  all_goals omega
theorem cntK_o {i o : Nat} (h : i < o) : cntK i o (o + 1) = cntK i o o := by
  unfold cntK
  repeat' split
  all_goals omega
theorem cntK_r {i o k : Nat} (h : i < o) (h1 : k ≠ i) (h2 : k ≠ o) : cntK i o (k + 1) = cntK i o k + 1 := by
  unfold cntK
  repeat' split
  all_goals omega
theorem cntK_lt {i o k n : Nat} (h : i < o) (ho : o ≤ n + 1) (h1 : k ≠ i) (h2 : k ≠ o) (hk : k < n + 2) : cntK i o k < n := by
  unfold cntK
  repeat' split
  all_goals omega
set_option maxHeartbeats 8000000 in
theorem inserted_c (p : Plan) (hp : PlanIn p) (r : Rider) (i o : Nat) (hio : i < o) (ho : o ≤ p.stops.length + 1) :
    RealCall Tryd.prog 63 [aPlan p, .agg (cRider r), .int .i64 i, .int .i64 o] (aPlan (insS p r i o)) true := by
  have hrl := hp.riders
  have hsl := hp.stops
  have c1 := concat_c p.riders [r] (by omega) (by simp)
  have e1 : cRiders [r] = cRider r := by simp [cRiders]
  rw [e1] at c1
  clear hp e1
  unfold insS aPlan cPlan cRider at *
  refine realcall_intro Tryd.func63 (by kernel_rfl) rfl (Nat.le_of_ble_eq_true (by kernel_rfl)) ?_
  simp only [Tryd.results63, Tryd.ntmps63]
  repeat' (first | (with_reducible first | refine awp_seq ?_ | refine awp_blockS ?_ | refine awp_blockC ?_ | refine awp_blockR ?_ | refine awp_skip ?_ | refine awp_ret ?_ | refine awp_exit ?_ | refine awp_region ?_ | refine awp_regionD (id := 2) 10 mixed (by decide +kernel) ?_ | refine awp_regionS (id := 8) [0, 1, 2, 3, 4, 5, 7, 8] [6, 9, 10, 11] [[], [], [], [], [], [], [.fld 10 30 2, .slot 10], [.fld 10 30 2, .slot 10]] [[.fld 10 30 2], [], [.slot 10], []] mixed (by decide +kernel) ?_ | refine awp_condM ?_ | refine And.intro ?_ ?_ | apply gQ_merge | apply gE_merge | exact EqV_w | exact EqE_w | exact EqV_ptr | exact EqE_ptr | exact EqV_msl | exact EqE_msl | exact EqV_agg | exact EqE_agg | exact EqV_fn | exact EqE_fn | exact EqV_gd | exact EqE_gd | refine gM_splitN ?_ ?_ | refine gM_split ?_ ?_ |  refine condM_splitDN ?_ ?_ | refine condM_splitD ?_ ?_ | refine condM_splitN ?_ ?_ | refine condM_split ?_ ?_ | refine condM_any ?_ ?_ | refine cw (c1) ?_ | intro _) | (simp [*]) | (refine cw_eq (c1) ?_ ?_; (· (simp [*]; done))))
  all_goals try first | exact inI64 (by omega) (by omega) | omega
  refine awp_for4 7 (fun (x : Nat × List Stop) => x.1 ≤ p.stops.length + 2 ∧ x.2 = p.stops.drop (cntK i o x.1)) [2, 3, 8, 9, 10, 30] (fun (x : Nat × List Stop) => [(31, .w false false (.int .i64 x.1)), (11, .w false false (.sl x.2.length (cStops x.2)))]) [0, 2] (fun (x : Nat × List Stop) => [(5, [.w false false (.int .i64 p.car.at_), .w false false (.int .i64 p.car.time), .w false false (.int .i64 p.car.seats), .w true false (.sl (p.riders ++ [r]).length (cRiders (p.riders ++ [r]))), .msl 6 (x.1 * 2) 2 0 x.1]), (6, sA (insK p i o x.1))]) (fun (x : Nat × List Stop) => p.stops.length + 2 - x.1) (fun (_u : Unit) => True) [8, 10] (fun (_u : Unit) => []) [2] (fun (_u : Unit) => [(5, [.w false false (.int .i64 p.car.at_), .w false false (.int .i64 p.car.time), .w false false (.int .i64 p.car.seats), .w true false (.sl (p.riders ++ [r]).length (cRiders (p.riders ++ [r]))), .msl 6 (p.stops.length * 2 + 4) 2 0 (p.stops.length + 2)]), (6, sA (insK p i o (p.stops.length + 2)))]) (((0 : Nat), p.stops)) ⟨Nat.zero_le _, rfl⟩ (le_gen [] (by simp) (by simp)) (fun x hk => ?_) (fun _u hf => ?_)
  · obtain ⟨k, rest⟩ := x
    obtain ⟨hk, hrest⟩ := hk
    have hk : k ≤ p.stops.length + 2 := hk
    have hrest : rest = p.stops.drop (cntK i o k) := hrest
    by_cases hlt : k < p.stops.length + 2
    · have hL : insK p i o (k + 1) = insK p i o k ++ [insAt p i o k] := rfl
      have hlt' : (k : Int) < (p.stops.length : Int) + 2 := by omega
      by_cases h1 : k = i
      · subst h1
        have e : insAt p k o k = ⟨(p.riders.length : Int), false⟩ := if_pos rfl
        rw [e] at hL
        rw [← cntK_i hio] at hrest
        have kL := keep hL
        have kR := keep hrest
        clear hL hrest e
        repeat' (first | (with_reducible first | refine awp_seq ?_ | refine awp_blockS ?_ | refine awp_blockC ?_ | refine awp_blockR ?_ | refine awp_skip ?_ | refine awp_ret ?_ | refine awp_exit ?_ | refine awp_region ?_ | refine awp_regionD (id := 2) 10 mixed (by decide +kernel) ?_ | refine awp_regionS (id := 8) [0, 1, 2, 3, 4, 5, 7, 8] [6, 9, 10, 11] [[], [], [], [], [], [], [.fld 10 30 2, .slot 10], [.fld 10 30 2, .slot 10]] [[.fld 10 30 2], [], [.slot 10], []] mixed (by decide +kernel) ?_ | refine awp_condM ?_ | refine And.intro ?_ ?_ | apply gQ_merge | apply gE_merge | exact EqV_w | exact EqE_w | exact EqV_ptr | exact EqE_ptr | exact EqV_msl | exact EqE_msl | exact EqV_agg | exact EqE_agg | exact EqV_fn | exact EqE_fn | exact EqV_gd | exact EqE_gd | refine gM_splitN ?_ ?_ | refine gM_split ?_ ?_ |  refine condM_splitDN ?_ ?_ | refine condM_splitD ?_ ?_ | refine condM_splitN ?_ ?_ | refine condM_split ?_ ?_ | refine condM_any ?_ ?_ | intro _) | (simp [*, hlt']))
        all_goals first
          | exact inI64 (by omega) (by omega)
          | omega
          | (refine loopK_normal _ _ _ _ _ (k + 1, rest) _ ?_ (by first | omega | (dsimp only; omega) | (simp; omega)) ?_; (· exact ⟨by dsimp only; omega, kR⟩); (refine le_gen [] ?_ ?_ <;> first | trivial | (simp [*, show insK p k o (k + 1) = _ from kL, Nat.add_mul]; done)))
          | skip
      · have h1' : ¬ (k : Int) = (i : Int) := by omega
        by_cases h2 : k = o
        · subst h2
          have e : insAt p i k k = ⟨(p.riders.length : Int), true⟩ := by unfold insAt; rw [if_neg h1, if_pos rfl]
          rw [e] at hL
          rw [← cntK_o hio] at hrest
          have kL := keep hL
          have kR := keep hrest
          clear hL hrest e
          repeat' (first | (with_reducible first | refine awp_seq ?_ | refine awp_blockS ?_ | refine awp_blockC ?_ | refine awp_blockR ?_ | refine awp_skip ?_ | refine awp_ret ?_ | refine awp_exit ?_ | refine awp_region ?_ | refine awp_regionD (id := 2) 10 mixed (by decide +kernel) ?_ | refine awp_regionS (id := 8) [0, 1, 2, 3, 4, 5, 7, 8] [6, 9, 10, 11] [[], [], [], [], [], [], [.fld 10 30 2, .slot 10], [.fld 10 30 2, .slot 10]] [[.fld 10 30 2], [], [.slot 10], []] mixed (by decide +kernel) ?_ | refine awp_condM ?_ | refine And.intro ?_ ?_ | apply gQ_merge | apply gE_merge | exact EqV_w | exact EqE_w | exact EqV_ptr | exact EqE_ptr | exact EqV_msl | exact EqE_msl | exact EqV_agg | exact EqE_agg | exact EqV_fn | exact EqE_fn | exact EqV_gd | exact EqE_gd | refine gM_splitN ?_ ?_ | refine gM_split ?_ ?_ |  refine condM_splitDN ?_ ?_ | refine condM_splitD ?_ ?_ | refine condM_splitN ?_ ?_ | refine condM_split ?_ ?_ | refine condM_any ?_ ?_ | intro _) | (simp [*, hlt', h1']))
          all_goals first
            | exact inI64 (by omega) (by omega)
            | omega
            | (refine loopK_normal _ _ _ _ _ (k + 1, rest) _ ?_ (by first | omega | (dsimp only; omega) | (simp; omega)) ?_; (· exact ⟨by dsimp only; omega, kR⟩); (refine le_gen [] ?_ ?_ <;> first | trivial | (simp [*, show insK p i k (k + 1) = _ from kL, Nat.add_mul]; done)))
            | skip
        · have h2' : ¬ (k : Int) = (o : Int) := by omega
          have hc := cntK_lt hio ho h1 h2 hlt
          have e : insAt p i o k = nth p.stops (cntK i o k) := by unfold insAt; rw [if_neg h1, if_neg h2]
          rw [drop_nth _ _ hc, ← cntK_r hio h1 h2] at hrest
          rw [e] at hL
          subst hrest
          generalize nth p.stops (cntK i o k) = s at *
          generalize hrr : p.stops.drop (cntK i o (k + 1)) = rr at *
          obtain ⟨sr, so⟩ := s
          have kL := keep hL
          have kR := keep hrr.symm
          clear hL hrr e
          repeat' (first | (with_reducible first | refine awp_seq ?_ | refine awp_blockS ?_ | refine awp_blockC ?_ | refine awp_blockR ?_ | refine awp_skip ?_ | refine awp_ret ?_ | refine awp_exit ?_ | refine awp_region ?_ | refine awp_regionD (id := 2) 10 mixed (by decide +kernel) ?_ | refine awp_regionS (id := 8) [0, 1, 2, 3, 4, 5, 7, 8] [6, 9, 10, 11] [[], [], [], [], [], [], [.fld 10 30 2, .slot 10], [.fld 10 30 2, .slot 10]] [[.fld 10 30 2], [], [.slot 10], []] mixed (by decide +kernel) ?_ | refine awp_condM ?_ | refine And.intro ?_ ?_ | apply gQ_merge | apply gE_merge | exact EqV_w | exact EqE_w | exact EqV_ptr | exact EqE_ptr | exact EqV_msl | exact EqE_msl | exact EqV_agg | exact EqE_agg | exact EqV_fn | exact EqE_fn | exact EqV_gd | exact EqE_gd | refine gM_splitN ?_ ?_ | refine gM_split ?_ ?_ |  refine condM_splitDN ?_ ?_ | refine condM_splitD ?_ ?_ | refine condM_splitN ?_ ?_ | refine condM_split ?_ ?_ | refine condM_any ?_ ?_ | intro _) | (simp [*, hlt', h1', h2']))
          all_goals first
            | exact inI64 (by omega) (by omega)
            | omega
            | (refine loopK_normal _ _ _ _ _ (k + 1, rr) _ ?_ (by first | omega | (dsimp only; omega) | (simp; omega)) ?_; (· exact ⟨by dsimp only; omega, kR⟩); (refine le_gen [] ?_ ?_ <;> first | trivial | (simp [*, show insK p i o (k + 1) = _ from kL, Nat.add_mul]; done)))
            | skip
    · have hke : k = p.stops.length + 2 := by omega
      have hlt' : ¬ (k : Int) < (p.stops.length : Int) + 2 := by omega
      have kk := keep hke
      clear hke hrest
      repeat' (first | (with_reducible first | refine awp_seq ?_ | refine awp_blockS ?_ | refine awp_blockC ?_ | refine awp_blockR ?_ | refine awp_skip ?_ | refine awp_ret ?_ | refine awp_exit ?_ | refine awp_region ?_ | refine awp_regionD (id := 2) 10 mixed (by decide +kernel) ?_ | refine awp_regionS (id := 8) [0, 1, 2, 3, 4, 5, 7, 8] [6, 9, 10, 11] [[], [], [], [], [], [], [.fld 10 30 2, .slot 10], [.fld 10 30 2, .slot 10]] [[.fld 10 30 2], [], [.slot 10], []] mixed (by decide +kernel) ?_ | refine awp_condM ?_ | refine And.intro ?_ ?_ | apply gQ_merge | apply gE_merge | exact EqV_w | exact EqE_w | exact EqV_ptr | exact EqE_ptr | exact EqV_msl | exact EqE_msl | exact EqV_agg | exact EqE_agg | exact EqV_fn | exact EqE_fn | exact EqV_gd | exact EqE_gd | refine gM_splitN ?_ ?_ | refine gM_split ?_ ?_ |  refine condM_splitDN ?_ ?_ | refine condM_splitD ?_ ?_ | refine condM_splitN ?_ ?_ | refine condM_split ?_ ?_ | refine condM_any ?_ ?_ | intro _) | (simp [*, hlt']))
      all_goals (refine finW_intro () ?_ ?_; (· trivial); (refine le_gen [] ?_ ?_ <;> first | trivial | (simp [*, show k = p.stops.length + 2 from kk, Nat.add_mul]; done)))
  · repeat' (first | (with_reducible first | refine awp_seq ?_ | refine awp_blockS ?_ | refine awp_blockC ?_ | refine awp_blockR ?_ | refine awp_skip ?_ | refine awp_ret ?_ | refine awp_exit ?_ | refine awp_region ?_ | refine awp_regionD (id := 2) 10 mixed (by decide +kernel) ?_ | refine awp_regionS (id := 8) [0, 1, 2, 3, 4, 5, 7, 8] [6, 9, 10, 11] [[], [], [], [], [], [], [.fld 10 30 2, .slot 10], [.fld 10 30 2, .slot 10]] [[.fld 10 30 2], [], [.slot 10], []] mixed (by decide +kernel) ?_ | refine awp_condM ?_ | refine And.intro ?_ ?_ | apply gQ_merge | apply gE_merge | exact EqV_w | exact EqE_w | exact EqV_ptr | exact EqE_ptr | exact EqV_msl | exact EqE_msl | exact EqV_agg | exact EqE_agg | exact EqV_fn | exact EqE_fn | exact EqV_gd | exact EqE_gd | refine gM_splitN ?_ ?_ | refine gM_split ?_ ?_ |  refine condM_splitDN ?_ ?_ | refine condM_splitD ?_ ?_ | refine condM_splitN ?_ ?_ | refine condM_split ?_ ?_ | refine condM_any ?_ ?_ | intro _) | (simp [*, Nat.add_mul]))
end Go.Proofs.YtiialcomflggcaaDoor
namespace Go.Proofs.YtiialcomflggcaaDoor
open Go Go.Fi
set_option maxRecDepth 20000

/-! ### the plan with a rider more can be driven -/
theorem nth_app_left {α : Type} [Inhabited α] (a b : List α) (j : Nat) (h : j < a.length) : nth (a ++ b) j = nth a j := by
  simp [nth, List.getD_eq_getElem?_getD, List.getElem?_append_left h]
theorem nth_app_one {α : Type} [Inhabited α] (a : List α) (x : α) : nth (a ++ [x]) a.length = x := by
  simp [nth, List.getD_eq_getElem?_getD]
theorem insK_nth (p : Plan) (i o : Nat) : ∀ (k j : Nat), j < k → nth (insK p i o k) j = insAt p i o j
  | 0, j, h => by omega
  | k + 1, j, h => by
    simp only [insK]
    by_cases e : j < k
    · rw [nth_app_left _ _ _ (by simpa using e), insK_nth p i o k j e]
    · have e : j = k := by omega
      subst e
      have := nth_app_one (insK p i o j) (insAt p i o j)
      rwa [insK_len] at this
@[simp] theorem insS_stops_len (p : Plan) (r : Rider) (i o : Nat) : (insS p r i o).stops.length = p.stops.length + 2 := insK_len _ _ _ _
theorem insS_nth (p : Plan) (r : Rider) (i o : Nat) {k : Nat} (h : k < p.stops.length + 2) : nth (insS p r i o).stops k = insAt p i o k := insK_nth _ _ _ _ _ h
theorem mem_of_nth {α : Type} [Inhabited α] {l : List α} {k : Nat} {x : α} (h : k < l.length) (e : nth l k = x) : x ∈ l := e ▸ nth_mem h
theorem nth_of_mem {α : Type} [Inhabited α] {l : List α} {x : α} (h : x ∈ l) : ∃ k, k < l.length ∧ nth l k = x := by
  obtain ⟨i, hi, he⟩ := List.getElem_of_mem h
  exact ⟨i, hi, by rw [← he]; simp [nth, List.getD_eq_getElem?_getD, List.getElem?_eq_getElem hi]⟩
theorem ins_in (p : Plan) (r : Rider) {i o : Nat} (hio : i < o) (ho : o ≤ p.stops.length + 1) : (⟨(p.riders.length : Int), false⟩ : Stop) ∈ (insS p r i o).stops :=
  mem_of_nth (k := i) (by rw [insS_stops_len]; omega) (by rw [insS_nth _ _ _ _ (by omega)]; exact if_pos rfl)
theorem ins_old (p : Plan) (r : Rider) {i o : Nat} (hio : i < o) (ho : o ≤ p.stops.length + 1) {s : Stop} (hs : s ∈ p.stops) : s ∈ (insS p r i o).stops := by
  obtain ⟨c, hc, rfl⟩ := nth_of_mem hs
  have key : ∀ k, k < p.stops.length + 2 → k ≠ i → k ≠ o → cntK i o k = c → nth p.stops c ∈ (insS p r i o).stops := fun k hk h1 h2 h3 =>
    mem_of_nth (k := k) (by rw [insS_stops_len]; exact hk) (by rw [insS_nth _ _ _ _ hk]; unfold insAt; rw [if_neg h1, if_neg h2, h3])
  by_cases h1 : c < i
  · exact key c (by omega) (by omega) (by omega) (by unfold cntK; rw [if_neg (by omega), if_neg (by omega)]; omega)
  · by_cases h2 : c + 1 < o
    · exact key (c + 1) (by omega) (by omega) (by omega) (by unfold cntK; rw [if_pos (by omega), if_neg (by omega)]; omega)
    · exact key (c + 2) (by omega) (by omega) (by omega) (by unfold cntK; rw [if_pos (by omega), if_pos (by omega)]; omega)
theorem insAt_cases (p : Plan) {i o k : Nat} (hio : i < o) (ho : o ≤ p.stops.length + 1) (hk : k < p.stops.length + 2) :
    (k = i ∧ insAt p i o k = ⟨(p.riders.length : Int), false⟩) ∨ (k = o ∧ insAt p i o k = ⟨(p.riders.length : Int), true⟩) ∨ (k ≠ i ∧ k ≠ o ∧ cntK i o k < p.stops.length ∧ insAt p i o k = nth p.stops (cntK i o k)) := by
  by_cases h1 : k = i
  · exact .inl ⟨h1, if_pos h1⟩
  · by_cases h2 : k = o
    · exact .inr (.inl ⟨h2, by unfold insAt; rw [if_neg h1, if_pos h2]⟩)
    · exact .inr (.inr ⟨h1, h2, cntK_lt hio ho h1 h2 hk, by unfold insAt; rw [if_neg h1, if_neg h2]⟩)
theorem riders_app (p : Plan) (r : Rider) {j : Nat} (h : j < p.riders.length) : nth (p.riders ++ [r]) j = nth p.riders j := nth_app_left _ _ _ h
theorem insS_tour {m : Grid} {p : Plan} (h : TourOk m p) {r : Rider} (hr : RiderOk m r) {i o : Nat} (hio : i < o) (ho : o ≤ p.stops.length + 1) (h1 : p.riders.length < 9000) (h2 : p.stops.length < 9000) : TourOk m (insS p r i o) := by
  have g := h.go
  have hrl : (insS p r i o).riders.length = p.riders.length + 1 := by simp [insS]
  refine ⟨⟨g.ml, g.sq, g.cell, g.at0, g.at1, g.t0, g.t1, by omega, by rw [insS_stops_len]; omega, fun j hj => ?_, fun k hk => ?_⟩, fun k hk hout => ?_⟩
  · rw [hrl] at hj
    by_cases e : j < p.riders.length
    · show RiderOk m (nth (p.riders ++ [r]) j)
      rw [riders_app p r e]; exact g.riders j e
    · have e : j = p.riders.length := by omega
      subst e
      show RiderOk m (nth (p.riders ++ [r]) p.riders.length)
      rw [nth_app_one]; exact hr
  · rw [insS_stops_len] at hk
    rw [insS_nth _ _ _ _ hk, hrl]
    rcases insAt_cases p hio ho hk with ⟨_, e⟩ | ⟨_, e⟩ | ⟨_, _, hc, e⟩
    · rw [e]; exact ⟨by show (0 : Int) ≤ (p.riders.length : Int); omega, by show (p.riders.length : Int) < ((p.riders.length + 1 : Nat) : Int); omega⟩
    · rw [e]; exact ⟨by show (0 : Int) ≤ (p.riders.length : Int); omega, by show (p.riders.length : Int) < ((p.riders.length + 1 : Nat) : Int); omega⟩
    · rw [e]; have := g.stops _ hc; omega
  · rw [insS_stops_len] at hk
    rw [insS_nth _ _ _ _ hk] at hout ⊢
    rcases insAt_cases p hio ho hk with ⟨_, e⟩ | ⟨_, e⟩ | ⟨_, _, hc, e⟩
    · rw [e] at hout; cases hout
    · rw [e]; exact .inr (ins_in p r hio ho)
    · rw [e] at hout ⊢
      have hst := g.stops _ hc
      rcases h.ins _ hc hout with h3 | h3
      · left
        show (nth (p.riders ++ [r]) (nth p.stops (cntK i o k)).rider.toNat).aboard = true
        rw [riders_app p r (by omega)]; exact h3
      · exact .inr (ins_old p r hio ho h3)

/-! ### offers -/
def keepsS (m : Grid) (q : Plan) : Bool := !(brokenS m q (timesS m q noDelay) (seatsS q)).2
def costP (m : Grid) (q : Plan) : Int := costS q (timesS m q noDelay)
abbrev Offer := Int × Int × Int
def offAt (m : Grid) (p : Plan) (r : Rider) (i o : Nat) : List Offer := if keepsS m (insS p r i o) = true then [((i : Int), (o : Int), costP m (insS p r i o))] else []
def offI (m : Grid) (p : Plan) (r : Rider) (i : Nat) : Nat → List Offer
  | 0 => []
  | c + 1 => offI m p r i c ++ offAt m p r i (i + 1 + c)
def offO (m : Grid) (p : Plan) (r : Rider) : Nat → List Offer
  | 0 => []
  | k + 1 => offO m p r k ++ offI m p r k (p.stops.length + 1 - k)
def offersS (m : Grid) (p : Plan) (r : Rider) : List Offer := offO m p r (p.stops.length + 1)
def accO (m : Grid) (p : Plan) (r : Rider) (i c : Nat) : List Offer := offO m p r i ++ offI m p r i c
@[simp] theorem offO_zero (m : Grid) (p : Plan) (r : Rider) : offO m p r 0 = [] := rfl
@[simp] theorem accO_start (m : Grid) (p : Plan) (r : Rider) (i : Nat) : accO m p r i 0 = offO m p r i := by simp [accO, offI]
theorem accO_step (m : Grid) (p : Plan) (r : Rider) (i c : Nat) : accO m p r i (c + 1) = accO m p r i c ++ offAt m p r i (i + 1 + c) := by simp [accO, offI]
theorem accO_end (m : Grid) (p : Plan) (r : Rider) (i : Nat) : accO m p r i (p.stops.length + 1 - i) = offO m p r (i + 1) := rfl
theorem offAt_len (m : Grid) (p : Plan) (r : Rider) (i o : Nat) : (offAt m p r i o).length ≤ 1 := by unfold offAt; split <;> simp
theorem offI_len (m : Grid) (p : Plan) (r : Rider) (i : Nat) : ∀ c, (offI m p r i c).length ≤ c
  | 0 => by simp [offI]
  | c + 1 => by have := offI_len m p r i c; have := offAt_len m p r i (i + 1 + c); simp only [offI, List.length_append]; omega
theorem offO_len (m : Grid) (p : Plan) (r : Rider) (h : p.stops.length < 5000) : ∀ k, (offO m p r k).length ≤ k * 6000
  | 0 => by simp [offO]
  | k + 1 => by have := offO_len m p r h k; have := offI_len m p r k (p.stops.length + 1 - k); simp only [offO, List.length_append]; omega
theorem accO_len (m : Grid) (p : Plan) (r : Rider) (h : p.stops.length < 5000) (i c : Nat) : (accO m p r i c).length ≤ i * 6000 + c := by
  have := offO_len m p r h i; have := offI_len m p r i c; simp only [accO, List.length_append]; omega
def cOffer (x : Offer) : List PV := [.int .i64 x.1, .int .i64 x.2.1, .int .i64 x.2.2]
def cOffers (l : List Offer) : List PV := l.flatMap cOffer
@[simp] theorem cOffers_len (l : List Offer) : (cOffers l).length = l.length * 3 := flatMap_len cOffer 3 (fun _ => rfl) l
@[simp] theorem cOffers_drop (l : List Offer) (k : Nat) (h : k < l.length) : ((cOffers l).drop (k * 3)).take 3 = cOffer (nth l k) := flatMap_drop cOffer 3 (fun _ => rfl) l k h
@[simp] theorem cOffers_0 (l : List Offer) (k : Nat) (h : k < l.length) : nthP (cOffers l) (k * 3) = .int .i64 (nth l k).1 := flatMap_get cOffer 3 (fun _ => rfl) l k 0 h (by omega)
@[simp] theorem cOffers_1 (l : List Offer) (k : Nat) (h : k < l.length) : nthP (cOffers l) (k * 3 + 1) = .int .i64 (nth l k).2.1 := flatMap_get cOffer 3 (fun _ => rfl) l k 1 h (by omega)
@[simp] theorem cOffers_2 (l : List Offer) (k : Nat) (h : k < l.length) : nthP (cOffers l) (k * 3 + 2) = .int .i64 (nth l k).2.2 := flatMap_get cOffer 3 (fun _ => rfl) l k 2 h (by omega)
theorem cOffer_flat (r : Offer) : flatL (cOffer r) = true := rfl
@[simp] theorem cOffers_flat : ∀ l : List Offer, flatL (cOffers l) = true
  | [] => rfl
  | r :: l => by unfold cOffers; rw [List.flatMap_cons, flatL_app, cOffer_flat]; exact cOffers_flat l
theorem cOffers_app (a b : List Offer) : cOffers (a ++ b) = cOffers a ++ cOffers b := by simp [cOffers]
def oA (l : List Offer) : List AV := (cOffers l).map (.w false false)
@[simp] theorem oA_len (l : List Offer) : (oA l).length = l.length * 3 := by simp [oA]
@[simp] theorem oA_nil : oA [] = [] := rfl
@[simp] theorem oA_snoc (a : List Offer) (x y z : Int) : oA a ++ [.w false false (.int .i64 x), .w false false (.int .i64 y), .w false false (.int .i64 z)] = oA (a ++ [(x, y, z)]) := by simp [oA, cOffers_app, cOffers, cOffer]
@[simp] theorem oA_lt (l : List Offer) (n : Nat) : AV.lt.ltL n (oA l) = true := ltL_map n false false _
@[simp] theorem oA_self {D : List Nat} {h : Heap} {n n' : Nat} (l : List Offer) : cellsLe D h n n' (oA l) (oA l) = True := eq_true (cellsLe_w false false _)
@[simp high] theorem oA_frz (h : Heap) (d : Nat) (l : List Offer) : (oA l).mapM (frz h d) = some (cOffers l) := mapM_frz h d false false _
@[simp high] theorem oA_fresh (h : Heap) (d : Nat) (l : List Offer) : (oA l).all (freshA h d) = true := all_flat h d false false _ (cOffers_flat l)
/-- the first of the least cost -/
def bestF : List Offer → Option Offer → Option Offer
  | [], b => b
  | x :: l, none => bestF l (some x)
  | x :: l, some b => if x.2.2 < b.2.2 then bestF l (some x) else bestF l (some b)
/-- closure of an iterator over offers -/
def itP (m : Grid) (p : Plan) (r : Rider) : PV := .fn 61 [.ip (cPlan p) 0, .ip (cMap m) 0, .ip (cRider r) 0]
theorem offers_c (m : Grid) (p : Plan) (r : Rider) : RealCall Tryd.prog 42 [aMap m, aPlan p, .agg (cRider r)] (itP m p r) false := by
  unfold aMap aPlan cPlan cRider itP
  refine realcall_intro Tryd.func42 (by kernel_rfl) rfl (Nat.le_of_ble_eq_true (by kernel_rfl)) ?_
  simp only [Tryd.results42, Tryd.ntmps42]
  repeat' (first | (with_reducible first | refine awp_seq ?_ | refine awp_blockS ?_ | refine awp_blockC ?_ | refine awp_blockR ?_ | refine awp_skip ?_ | refine awp_ret ?_ | refine awp_exit ?_ | refine awp_region ?_ | refine awp_condM ?_ | refine And.intro ?_ ?_ | apply gQ_merge | apply gE_merge | exact EqV_w | exact EqE_w | exact EqV_ptr | exact EqE_ptr | exact EqV_msl | exact EqE_msl | exact EqV_agg | exact EqE_agg | exact EqV_fn | exact EqE_fn | exact EqV_gd | exact EqE_gd | refine gM_splitN ?_ ?_ | refine gM_split ?_ ?_ |  refine condM_splitDN ?_ ?_ | refine condM_splitD ?_ ?_ | refine condM_splitN ?_ ?_ | refine condM_split ?_ ?_ | refine condM_any ?_ ?_ | intro _) | (simp [*, cMap, cPlan, cRider]))
end Go.Proofs.YtiialcomflggcaaDoor

