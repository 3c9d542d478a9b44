/- Contracts of functions for this claim: lemmas alone. -/
import Derived.Test.YtiialcomflggcaaDoorP1
import Derived.Test.YtiialcomflggcaaDoorLm
set_option linter.unusedSimpArgs false
set_option linter.unusedVariables false
namespace Go.Proofs.YtiialcomflggcaaDoor
open Go Go.Fi
set_option maxRecDepth 20000

/-! ### searching -/
def idxF {α : Type} (p : α → Bool) : List α → Nat → Int
  | [], _ => -1
  | x :: r, i => if p x = true then (i : Int) else idxF p r (i + 1)
def idxOf {α : Type} (p : α → Bool) (l : List α) : Int := idxF p l 0
theorem idxF_any {α : Type} (p : α → Bool) : ∀ (l : List α) (i : Nat), decide (0 ≤ idxF p l i) = l.any p
  | [], i => rfl
  | x :: r, i => by
    unfold idxF
    cases h : p x with
    | true => simp [h]
    | false => simp [h]; have := idxF_any p r (i + 1); simpa using this
theorem idxOf_any {α : Type} (p : α → Bool) (l : List α) : decide (0 ≤ idxOf p l) = l.any p := idxF_any p l 0
def aRider (r : Rider) : PV := .agg (cRider r)
theorem indexFunc_c (l : List Rider) (hl : l.length < 100000) (g : FuncId) (caps : List PV) (p : Rider → Bool) (h : ∀ x, RealCall Tryd.prog g (aRider x :: caps) (.bool (p x)) true) :
    RealCall Tryd.prog 86 [.sl l.length (cRiders l), .fn g caps] (.int .i64 (idxOf p l)) true := by
  unfold aRider at h
  generalize hR : idxOf p l = R
  have kR : Keep (idxF p l 0 = R) := keep hR
  clear hR
  refine realcall_intro Tryd.func86 (by kernel_rfl) rfl (Nat.le_of_ble_eq_true (by kernel_rfl)) ?_
  simp only [Tryd.results86, Tryd.ntmps86]
  repeat' (first | (with_reducible first | refine awp_seq ?_ | refine awp_blockS ?_ | refine awp_blockC ?_ | refine awp_blockR ?_ | refine awp_skip ?_ | refine awp_ret ?_ | refine awp_exit ?_ | refine awp_region ?_ | refine awp_condM ?_ | refine And.intro ?_ ?_ | apply gQ_merge | apply gE_merge | exact EqV_w | exact EqE_w | exact EqV_ptr | exact EqE_ptr | exact EqV_msl | exact EqE_msl | exact EqV_agg | exact EqE_agg | exact EqV_fn | exact EqE_fn | exact EqV_gd | exact EqE_gd | refine gM_splitN ?_ ?_ | refine gM_split ?_ ?_ |  refine condM_splitDN ?_ ?_ | refine condM_splitD ?_ ?_ | refine condM_splitN ?_ ?_ | refine condM_split ?_ ?_ | refine condM_any ?_ ?_ | intro _) | (simp [*]))
  refine awp_for3 (fun (k : Nat) => k ≤ l.length ∧ idxF p (l.drop k) k = R) [0, 1, 7] (fun (k : Nat) => [(8, .w false false (.int .i64 k))]) [] (fun (k : Nat) => []) (fun (k : Nat) => l.length - k) (fun (_u : Unit) => R = -1) [] (fun (_u : Unit) => []) [] (fun (_u : Unit) => []) (0) ⟨Nat.zero_le _, kR⟩ (by simp) (by simp) (fun k hk => ?_) (fun _u hf => ?_)
  · obtain ⟨hk, hj⟩ := hk
    by_cases hlt : k < l.length
    · have c1 := h (nth l k)
      have hj' := hj
      rw [drop_nth l k hlt] at hj'
      unfold idxF at hj'
      have kj := keep hj'
      clear hj hj' h
      repeat' (first | (with_reducible first | refine awp_seq ?_ | refine awp_blockS ?_ | refine awp_blockC ?_ | refine awp_blockR ?_ | refine awp_skip ?_ | refine awp_ret ?_ | refine awp_exit ?_ | refine awp_region ?_ | refine awp_condM ?_ | refine And.intro ?_ ?_ | apply gQ_merge | apply gE_merge | exact EqV_w | exact EqE_w | exact EqV_ptr | exact EqE_ptr | exact EqV_msl | exact EqE_msl | exact EqV_agg | exact EqE_agg | exact EqV_fn | exact EqE_fn | exact EqV_gd | exact EqE_gd | refine gM_splitN ?_ ?_ | refine gM_split ?_ ?_ |  refine condM_splitDN ?_ ?_ | refine condM_splitD ?_ ?_ | refine condM_splitN ?_ ?_ | refine condM_split ?_ ?_ | refine condM_any ?_ ?_ | refine cw (c1) ?_ | intro _) | (simp [*, hlt]) | (refine cw_eq (c1) ?_ ?_; (· (simp [*]; done))))
      all_goals first
        | exact inI64 (by omega) (by omega)
        | omega
        | (rename_i hp; rw [if_pos hp] at kj; exact kj)
        | (rename_i hp; rw [if_neg (by rw [hp]; decide)] at kj; (refine loopK_normal _ _ _ _ _ (k + 1) _ ?_ (by first | omega | (dsimp only; omega) | (simp; omega)) ?_; (· exact ⟨by omega, kj⟩); (refine le_of ?_ ?_ <;> first | trivial | (simp [*]; done))))
        | skip
    · have hke : k = l.length := by omega
      subst hke
      repeat' (first | (with_reducible first | refine awp_seq ?_ | refine awp_blockS ?_ | refine awp_blockC ?_ | refine awp_blockR ?_ | refine awp_skip ?_ | refine awp_ret ?_ | refine awp_exit ?_ | refine awp_region ?_ | refine awp_condM ?_ | refine And.intro ?_ ?_ | apply gQ_merge | apply gE_merge | exact EqV_w | exact EqE_w | exact EqV_ptr | exact EqE_ptr | exact EqV_msl | exact EqE_msl | exact EqV_agg | exact EqE_agg | exact EqV_fn | exact EqE_fn | exact EqV_gd | exact EqE_gd | refine gM_splitN ?_ ?_ | refine gM_split ?_ ?_ |  refine condM_splitDN ?_ ?_ | refine condM_splitD ?_ ?_ | refine condM_splitN ?_ ?_ | refine condM_split ?_ ?_ | refine condM_any ?_ ?_ | intro _) | (simp [*]))
      all_goals (refine finW_intro () ?_ ?_; (· rw [← hj, List.drop_length]; rfl); (refine le_of ?_ ?_ <;> first | trivial | (simp [*]; done)))
  · subst hf
    repeat' (first | (with_reducible first | refine awp_seq ?_ | refine awp_blockS ?_ | refine awp_blockC ?_ | refine awp_blockR ?_ | refine awp_skip ?_ | refine awp_ret ?_ | refine awp_exit ?_ | refine awp_region ?_ | refine awp_condM ?_ | refine And.intro ?_ ?_ | apply gQ_merge | apply gE_merge | exact EqV_w | exact EqE_w | exact EqV_ptr | exact EqE_ptr | exact EqV_msl | exact EqE_msl | exact EqV_agg | exact EqE_agg | exact EqV_fn | exact EqE_fn | exact EqV_gd | exact EqE_gd | refine gM_splitN ?_ ?_ | refine gM_split ?_ ?_ |  refine condM_splitDN ?_ ?_ | refine condM_splitD ?_ ?_ | refine condM_splitN ?_ ?_ | refine condM_split ?_ ?_ | refine condM_any ?_ ?_ | intro _) | (simp [*]))
end Go.Proofs.YtiialcomflggcaaDoor
namespace Go.Proofs.YtiialcomflggcaaDoor
open Go Go.Fi
set_option maxRecDepth 20000

/-! ### riders -/
def placeB (m : Grid) (n : Int) : Bool := winB n 0 ((m.length : Int) - 1)
def knownB (l : List Rider) (s : ByteArray) : Bool := l.any (fun o => decide (o.name = s))
def rightB (r : Rider) : Bool := winB r.seats 1 8 && winB r.detour 0 20000 && winB r.ready 0 1000000 && winB r.ridden 0 20000
def formB (r : Rider) : Bool := (decide (r.ridden = 0) || r.aboard) && (decide (r.ready = 0) || !r.aboard)
def riderE (m : Grid) (l : List Rider) (r : Rider) : Int :=
  firstS [errUnless (nameB r.name) 4, errUnless (!knownB l r.name) 5, errUnless (placeB m r.frm && placeB m r.to) 6, errUnless (!decide (r.frm = r.to)) 13, errUnless (rightB r) 2, errUnless (formB r) 3]
theorem place_c (m : Grid) (hm : GridIn m) (n : Int) : RealCall Tryd.prog 73 [.int .i64 n, .ip (cMap m) 0] (.bool (placeB m n)) true := by
  have hl := hm.len
  clear hm
  unfold placeB cMap
  refine realcall_intro Tryd.func73 (by kernel_rfl) rfl (Nat.le_of_ble_eq_true (by kernel_rfl)) ?_
  simp only [Tryd.results73, Tryd.ntmps73]
  repeat' (first | (with_reducible first | refine awp_seq ?_ | refine awp_blockS ?_ | refine awp_blockC ?_ | refine awp_blockR ?_ | refine awp_skip ?_ | refine awp_ret ?_ | refine awp_exit ?_ | refine awp_region ?_ | refine awp_condM ?_ | refine And.intro ?_ ?_ | apply gQ_merge | apply gE_merge | exact EqV_w | exact EqE_w | exact EqV_ptr | exact EqE_ptr | exact EqV_msl | exact EqE_msl | exact EqV_agg | exact EqE_agg | exact EqV_fn | exact EqE_fn | exact EqV_gd | exact EqE_gd | refine gM_splitN ?_ ?_ | refine gM_split ?_ ?_ |  refine condM_splitDN ?_ ?_ | refine condM_splitD ?_ ?_ | refine condM_splitN ?_ ?_ | refine condM_split ?_ ?_ | refine condM_any ?_ ?_ | refine cw (within_c _ _ _) ?_ | intro _) | (simp [*]) | (refine cw_eq (within_c _ _ _) ?_ ?_; (· (simp [*]; done))))
  all_goals exact inI64 (by omega) (by omega)
theorem sameName_c (o r : Rider) : RealCall Tryd.prog 75 [.agg (cRider o), .ip (cRider r) 0] (.bool (decide (o.name = r.name))) true := by
  unfold cRider
  refine realcall_intro Tryd.func75 (by kernel_rfl) rfl (Nat.le_of_ble_eq_true (by kernel_rfl)) ?_
  simp only [Tryd.results75, Tryd.ntmps75]
  repeat' (first | (with_reducible first | refine awp_seq ?_ | refine awp_blockS ?_ | refine awp_blockC ?_ | refine awp_blockR ?_ | refine awp_skip ?_ | refine awp_ret ?_ | refine awp_exit ?_ | refine awp_region ?_ | refine awp_condM ?_ | refine And.intro ?_ ?_ | apply gQ_merge | apply gE_merge | exact EqV_w | exact EqE_w | exact EqV_ptr | exact EqE_ptr | exact EqV_msl | exact EqE_msl | exact EqV_agg | exact EqE_agg | exact EqV_fn | exact EqE_fn | exact EqV_gd | exact EqE_gd | refine gM_splitN ?_ ?_ | refine gM_split ?_ ?_ |  refine condM_splitDN ?_ ?_ | refine condM_splitD ?_ ?_ | refine condM_splitN ?_ ?_ | refine condM_split ?_ ?_ | refine condM_any ?_ ?_ | intro _) | (simp [*]))
theorem containsFunc_c (l : List Rider) (hl : l.length < 100000) (r : Rider) : RealCall Tryd.prog 74 [.sl l.length (cRiders l), .fn 75 [.ip (cRider r) 0]] (.bool (knownB l r.name)) true := by
  have c1 := indexFunc_c l hl 75 [.ip (cRider r) 0] (fun o => decide (o.name = r.name)) (fun x => sameName_c x r)
  have h := idxOf_any (fun o => decide (o.name = r.name)) l
  generalize idxOf (fun o => decide (o.name = r.name)) l = i at *
  unfold knownB
  rw [← h]
  clear h
  refine realcall_intro Tryd.func74 (by kernel_rfl) rfl (Nat.le_of_ble_eq_true (by kernel_rfl)) ?_
  simp only [Tryd.results74, Tryd.ntmps74]
  repeat' (first | (with_reducible first | refine awp_seq ?_ | refine awp_blockS ?_ | refine awp_blockC ?_ | refine awp_blockR ?_ | refine awp_skip ?_ | refine awp_ret ?_ | refine awp_exit ?_ | refine awp_region ?_ | refine awp_condM ?_ | refine And.intro ?_ ?_ | apply gQ_merge | apply gE_merge | exact EqV_w | exact EqE_w | exact EqV_ptr | exact EqE_ptr | exact EqV_msl | exact EqE_msl | exact EqV_agg | exact EqE_agg | exact EqV_fn | exact EqE_fn | exact EqV_gd | exact EqE_gd | refine gM_splitN ?_ ?_ | refine gM_split ?_ ?_ |  refine condM_splitDN ?_ ?_ | refine condM_splitD ?_ ?_ | refine condM_splitN ?_ ?_ | refine condM_split ?_ ?_ | refine condM_any ?_ ?_ | refine cw (c1) ?_ | intro _) | (simp [*]) | (refine cw_eq (c1) ?_ ?_; (· (simp [*]; done))))
set_option maxHeartbeats 4000000 in
theorem riderErr_c (m : Grid) (hm : GridIn m) (l : List Rider) (hl : l.length < 100000) (r : Rider) (hr : r.name.size < 1000000) : RealCall Tryd.prog 59 [aMap m, .sl l.length (cRiders l), .agg (cRider r)] (.int .i64 (riderE m l r)) true := by
  have c1 := isName_c r.name hr
  have c2 := containsFunc_c l hl r
  have c3 := place_c m hm r.frm
  have c4 := place_c m hm r.to
  clear hm
  unfold aMap cMap cRider at *
  unfold riderE rightB formB
  refine realcall_intro Tryd.func59 (by kernel_rfl) rfl (Nat.le_of_ble_eq_true (by kernel_rfl)) ?_
  simp only [Tryd.results59, Tryd.ntmps59]
  repeat' (first | (with_reducible first | refine awp_seq ?_ | refine awp_blockS ?_ | refine awp_blockC ?_ | refine awp_blockR ?_ | refine awp_skip ?_ | refine awp_ret ?_ | refine awp_exit ?_ | refine awp_region ?_ | refine awp_regionD (id := 4) 47 mixed (by decide +kernel) ?_ | refine awp_condM ?_ | refine And.intro ?_ ?_ | apply gQ_merge | apply gE_merge | exact EqV_w | exact EqE_w | exact EqV_ptr | exact EqE_ptr | exact EqV_msl | exact EqE_msl | exact EqV_agg | exact EqE_agg | exact EqV_fn | exact EqE_fn | exact EqV_gd | exact EqE_gd | refine gM_splitN ?_ ?_ | refine gM_split ?_ ?_ |  refine condM_splitDN ?_ ?_ | refine condM_splitD ?_ ?_ | refine condM_splitN ?_ ?_ | refine condM_split ?_ ?_ | refine condM_any ?_ ?_ | refine cw (c1) ?_ | refine cw (c2) ?_ | refine cw (c3) ?_ | refine cw (c4) ?_ | refine cw (within_c _ _ _) ?_ | refine cw (unless_c _ _) ?_ | refine cw (first6_c _ _ _ _ _ _) ?_ | intro _) | (simp [*]) | (refine cw_eq (c1) ?_ ?_; (· (simp [*]; done))) | (refine cw_eq (c2) ?_ ?_; (· (simp [*]; done))) | (refine cw_eq (c3) ?_ ?_; (· (simp [*]; done))) | (refine cw_eq (c4) ?_ ?_; (· (simp [*]; done))) | (refine cw_eq (within_c _ _ _) ?_ ?_; (· (simp [*]; done))) | (refine cw_eq (unless_c _ _) ?_ ?_; (· (simp [*]; done))) | (refine cw_eq (first6_c _ _ _ _ _ _) ?_ ?_; (· (simp [*]; done))))
end Go.Proofs.YtiialcomflggcaaDoor
namespace Go.Proofs.YtiialcomflggcaaDoor
open Go Go.Fi
set_option maxRecDepth 20000

/-! ### parts of lists -/
theorem flatMap_take {α : Type} (f : α → List PV) (s : Nat) (hf : ∀ x, (f x).length = s) : ∀ (l : List α) (k : Nat), (l.flatMap f).take (k * s) = (l.take k).flatMap f
  | [], k => by simp
  | x :: l, 0 => by simp
  | x :: l, k + 1 => by
    rw [List.take_succ_cons, List.flatMap_cons, List.flatMap_cons]
    have e : (k + 1) * s = (f x).length + k * s := by rw [hf, Nat.add_mul]; omega
    rw [e, List.take_length_add_append, flatMap_take f s hf l k]
@[simp] theorem cRiders_take (l : List Rider) (k : Nat) : (cRiders l).take (k * 8) = cRiders (l.take k) := flatMap_take cRider 8 (fun _ => rfl) l k
@[simp] theorem cStops_take (l : List Stop) (k : Nat) : (cStops l).take (k * 2) = cStops (l.take k) := flatMap_take cStop 2 (fun _ => rfl) l k
@[simp] theorem ints_take (l : List Int) (k : Nat) : (ints l).take k = ints (l.take k) := by simp [ints, List.map_take]
theorem take_len {α : Type} (l : List α) (k : Nat) (h : k ≤ l.length) : (l.take k).length = k := by simp [Nat.min_eq_left h]

/-! ### stops -/
def stopEq (a b : Stop) : Bool := decide (a.rider = b.rider) && (a.out == b.out)
theorem stopEq_iff (a b : Stop) : stopEq a b = true ↔ a = b := by
  obtain ⟨a1, a2⟩ := a; obtain ⟨b1, b2⟩ := b
  simp [stopEq]
theorem stopEq_comm (a b : Stop) : stopEq a b = stopEq b a := by
  rw [Bool.eq_iff_iff, stopEq_iff, stopEq_iff]; exact eq_comm
def stopAt (l : List Stop) (s : Stop) : Int := idxOf (stopEq s) l
def elemB (l : List Stop) (s : Stop) : Bool := l.any (stopEq s)
theorem stopAt_elem (l : List Stop) (s : Stop) : decide (0 ≤ stopAt l s) = elemB l s := idxOf_any _ l
theorem index_c (l : List Stop) (hl : l.length < 100000) (s : Stop) : RealCall Tryd.prog 96 [.sl l.length (cStops l), .agg [.int .i64 s.rider, .bool s.out]] (.int .i64 (stopAt l s)) true := by
  unfold stopAt idxOf
  generalize hR : idxF (stopEq s) l 0 = R
  have kR := keep hR
  clear hR
  refine realcall_intro Tryd.func96 (by kernel_rfl) rfl (Nat.le_of_ble_eq_true (by kernel_rfl)) ?_
  simp only [Tryd.results96, Tryd.ntmps96]
  repeat' (first | (with_reducible first | refine awp_seq ?_ | refine awp_blockS ?_ | refine awp_blockC ?_ | refine awp_blockR ?_ | refine awp_skip ?_ | refine awp_ret ?_ | refine awp_exit ?_ | refine awp_region ?_ | refine awp_regionD (id := 4) 6 mixed (by decide +kernel) ?_ | refine awp_condM ?_ | refine And.intro ?_ ?_ | apply gQ_merge | apply gE_merge | exact EqV_w | exact EqE_w | exact EqV_ptr | exact EqE_ptr | exact EqV_msl | exact EqE_msl | exact EqV_agg | exact EqE_agg | exact EqV_fn | exact EqE_fn | exact EqV_gd | exact EqE_gd | refine gM_splitN ?_ ?_ | refine gM_split ?_ ?_ |  refine condM_splitDN ?_ ?_ | refine condM_splitD ?_ ?_ | refine condM_splitN ?_ ?_ | refine condM_split ?_ ?_ | refine condM_any ?_ ?_ | intro _) | (simp [*]))
  refine awp_for3 (fun (k : Nat) => k ≤ l.length ∧ idxF (stopEq s) (l.drop k) k = R) [0, 3, 7] (fun (k : Nat) => [(8, .w false false (.int .i64 k))]) [0] (fun (k : Nat) => []) (fun (k : Nat) => l.length - k) (fun (_u : Unit) => R = -1) [] (fun (_u : Unit) => []) [0] (fun (_u : Unit) => []) (0) ⟨Nat.zero_le _, kR⟩ (by simp) (by simp) (fun k hk => ?_) (fun _u hf => ?_)
  · obtain ⟨hk, hj⟩ := hk
    by_cases hlt : k < l.length
    · have hj' := hj
      rw [drop_nth l k hlt] at hj'
      unfold idxF at hj'
      have kj := keep hj'
      clear hj hj'
      repeat' (first | (with_reducible first | refine awp_seq ?_ | refine awp_blockS ?_ | refine awp_blockC ?_ | refine awp_blockR ?_ | refine awp_skip ?_ | refine awp_ret ?_ | refine awp_exit ?_ | refine awp_region ?_ | refine awp_regionD (id := 4) 6 mixed (by decide +kernel) ?_ | refine awp_condM ?_ | refine And.intro ?_ ?_ | apply gQ_merge | apply gE_merge | exact EqV_w | exact EqE_w | exact EqV_ptr | exact EqE_ptr | exact EqV_msl | exact EqE_msl | exact EqV_agg | exact EqE_agg | exact EqV_fn | exact EqE_fn | exact EqV_gd | exact EqE_gd | refine gM_splitN ?_ ?_ | refine gM_split ?_ ?_ |  refine condM_splitDN ?_ ?_ | refine condM_splitD ?_ ?_ | refine condM_splitN ?_ ?_ | refine condM_split ?_ ?_ | refine condM_any ?_ ?_ | intro _) | (simp [*, hlt, cStop]))
      all_goals first
        | exact inI64 (by omega) (by omega)
        | omega
        | (rename_i hp; rw [if_pos (by simpa [stopEq] using hp)] at kj; exact kj)
        | (rename_i hp; rw [if_neg (by simpa [stopEq] using hp)] at kj; (refine loopK_normal _ _ _ _ _ (k + 1) _ ?_ (by first | omega | (dsimp only; omega) | (simp; omega)) ?_; (· exact ⟨by omega, kj⟩); (refine le_of ?_ ?_ <;> first | trivial | (simp [*]; done))))
        | skip
    · have hke : k = l.length := by omega
      subst hke
      repeat' (first | (with_reducible first | refine awp_seq ?_ | refine awp_blockS ?_ | refine awp_blockC ?_ | refine awp_blockR ?_ | refine awp_skip ?_ | refine awp_ret ?_ | refine awp_exit ?_ | refine awp_region ?_ | refine awp_regionD (id := 4) 6 mixed (by decide +kernel) ?_ | refine awp_condM ?_ | refine And.intro ?_ ?_ | apply gQ_merge | apply gE_merge | exact EqV_w | exact EqE_w | exact EqV_ptr | exact EqE_ptr | exact EqV_msl | exact EqE_msl | exact EqV_agg | exact EqE_agg | exact EqV_fn | exact EqE_fn | exact EqV_gd | exact EqE_gd | refine gM_splitN ?_ ?_ | refine gM_split ?_ ?_ |  refine condM_splitDN ?_ ?_ | refine condM_splitD ?_ ?_ | refine condM_splitN ?_ ?_ | refine condM_split ?_ ?_ | refine condM_any ?_ ?_ | intro _) | (simp [*]))
      all_goals (refine finW_intro () ?_ ?_; (· rw [← hj, List.drop_length]; rfl); (refine le_of ?_ ?_ <;> first | trivial | (simp [*]; done)))
  · subst hf
    repeat' (first | (with_reducible first | refine awp_seq ?_ | refine awp_blockS ?_ | refine awp_blockC ?_ | refine awp_blockR ?_ | refine awp_skip ?_ | refine awp_ret ?_ | refine awp_exit ?_ | refine awp_region ?_ | refine awp_regionD (id := 4) 6 mixed (by decide +kernel) ?_ | refine awp_condM ?_ | refine And.intro ?_ ?_ | apply gQ_merge | apply gE_merge | exact EqV_w | exact EqE_w | exact EqV_ptr | exact EqE_ptr | exact EqV_msl | exact EqE_msl | exact EqV_agg | exact EqE_agg | exact EqV_fn | exact EqE_fn | exact EqV_gd | exact EqE_gd | refine gM_splitN ?_ ?_ | refine gM_split ?_ ?_ |  refine condM_splitDN ?_ ?_ | refine condM_splitD ?_ ?_ | refine condM_splitN ?_ ?_ | refine condM_split ?_ ?_ | refine condM_any ?_ ?_ | intro _) | (simp [*]))
theorem contains_c (l : List Stop) (hl : l.length < 100000) (s : Stop) : RealCall Tryd.prog 95 [.sl l.length (cStops l), .agg [.int .i64 s.rider, .bool s.out]] (.bool (elemB l s)) true := by
  have c1 := index_c l hl s
  have h := stopAt_elem l s
  generalize stopAt l s = i at *
  rw [← h]
  clear h
  refine realcall_intro Tryd.func95 (by kernel_rfl) rfl (Nat.le_of_ble_eq_true (by kernel_rfl)) ?_
  simp only [Tryd.results95, Tryd.ntmps95]
  repeat' (first | (with_reducible first | refine awp_seq ?_ | refine awp_blockS ?_ | refine awp_blockC ?_ | refine awp_blockR ?_ | refine awp_skip ?_ | refine awp_ret ?_ | refine awp_exit ?_ | refine awp_region ?_ | refine awp_condM ?_ | refine And.intro ?_ ?_ | apply gQ_merge | apply gE_merge | exact EqV_w | exact EqE_w | exact EqV_ptr | exact EqE_ptr | exact EqV_msl | exact EqE_msl | exact EqV_agg | exact EqE_agg | exact EqV_fn | exact EqE_fn | exact EqV_gd | exact EqE_gd | refine gM_splitN ?_ ?_ | refine gM_split ?_ ?_ |  refine condM_splitDN ?_ ?_ | refine condM_splitD ?_ ?_ | refine condM_splitN ?_ ?_ | refine condM_split ?_ ?_ | refine condM_any ?_ ?_ | refine cw (c1) ?_ | intro _) | (simp [*]) | (refine cw_eq (c1) ?_ ?_; (· (simp [*]; done))))
theorem idxF_congr {α : Type} {p q : α → Bool} (h : ∀ x, p x = q x) (l : List α) (i : Nat) : idxF p l i = idxF q l i := by
  have : p = q := funext h
  rw [this]
theorem find_c (l : List Stop) (hl : l.length < 100000) (s : Stop) : RealCall Tryd.prog 57 [.sl l.length (cStops l), .agg [.int .i64 s.rider, .bool s.out]] (.int .i64 (stopAt l s)) true := by
  unfold stopAt idxOf
  rw [idxF_congr (stopEq_comm s)]
  generalize hR : idxF (fun x => stopEq x s) l 0 = R
  have kR := keep hR
  clear hR
  refine realcall_intro Tryd.func57 (by kernel_rfl) rfl (Nat.le_of_ble_eq_true (by kernel_rfl)) ?_
  simp only [Tryd.results57, Tryd.ntmps57]
  repeat' (first | (with_reducible first | refine awp_seq ?_ | refine awp_blockS ?_ | refine awp_blockC ?_ | refine awp_blockR ?_ | refine awp_skip ?_ | refine awp_ret ?_ | refine awp_exit ?_ | refine awp_region ?_ | refine awp_regionD (id := 4) 6 mixed (by decide +kernel) ?_ | refine awp_condM ?_ | refine And.intro ?_ ?_ | apply gQ_merge | apply gE_merge | exact EqV_w | exact EqE_w | exact EqV_ptr | exact EqE_ptr | exact EqV_msl | exact EqE_msl | exact EqV_agg | exact EqE_agg | exact EqV_fn | exact EqE_fn | exact EqV_gd | exact EqE_gd | refine gM_splitN ?_ ?_ | refine gM_split ?_ ?_ |  refine condM_splitDN ?_ ?_ | refine condM_splitD ?_ ?_ | refine condM_splitN ?_ ?_ | refine condM_split ?_ ?_ | refine condM_any ?_ ?_ | intro _) | (simp [*]))
  refine awp_for3 (fun (k : Nat) => k ≤ l.length ∧ idxF (fun x => stopEq x s) (l.drop k) k = R) [0, 3] (fun (k : Nat) => [(5, .w false false (.int .i64 k))]) [0] (fun (k : Nat) => []) (fun (k : Nat) => l.length - k) (fun (_u : Unit) => R = -1) [] (fun (_u : Unit) => []) [0] (fun (_u : Unit) => []) (0) ⟨Nat.zero_le _, kR⟩ (by simp) (by simp) (fun k hk => ?_) (fun _u hf => ?_)
  · obtain ⟨hk, hj⟩ := hk
    by_cases hlt : k < l.length
    · have hj' := hj
      rw [drop_nth l k hlt] at hj'
      unfold idxF at hj'
      have kj := keep hj'
      clear hj hj'
      repeat' (first | (with_reducible first | refine awp_seq ?_ | refine awp_blockS ?_ | refine awp_blockC ?_ | refine awp_blockR ?_ | refine awp_skip ?_ | refine awp_ret ?_ | refine awp_exit ?_ | refine awp_region ?_ | refine awp_regionD (id := 4) 6 mixed (by decide +kernel) ?_ | refine awp_condM ?_ | refine And.intro ?_ ?_ | apply gQ_merge | apply gE_merge | exact EqV_w | exact EqE_w | exact EqV_ptr | exact EqE_ptr | exact EqV_msl | exact EqE_msl | exact EqV_agg | exact EqE_agg | exact EqV_fn | exact EqE_fn | exact EqV_gd | exact EqE_gd | refine gM_splitN ?_ ?_ | refine gM_split ?_ ?_ |  refine condM_splitDN ?_ ?_ | refine condM_splitD ?_ ?_ | refine condM_splitN ?_ ?_ | refine condM_split ?_ ?_ | refine condM_any ?_ ?_ | intro _) | (simp [*, hlt, cStop]))
      all_goals first
        | exact inI64 (by omega) (by omega)
        | omega
        | (rename_i hp; rw [if_pos (by simpa [stopEq] using hp)] at kj; exact kj)
        | (rename_i hp; rw [if_neg (by simpa [stopEq] using hp)] at kj; (refine loopK_normal _ _ _ _ _ (k + 1) _ ?_ (by first | omega | (dsimp only; omega) | (simp; omega)) ?_; (· exact ⟨by omega, kj⟩); (refine le_of ?_ ?_ <;> first | trivial | (simp [*]; done))))
        | skip
    · have hke : k = l.length := by omega
      subst hke
      repeat' (first | (with_reducible first | refine awp_seq ?_ | refine awp_blockS ?_ | refine awp_blockC ?_ | refine awp_blockR ?_ | refine awp_skip ?_ | refine awp_ret ?_ | refine awp_exit ?_ | refine awp_region ?_ | refine awp_regionD (id := 4) 6 mixed (by decide +kernel) ?_ | refine awp_condM ?_ | refine And.intro ?_ ?_ | apply gQ_merge | apply gE_merge | exact EqV_w | exact EqE_w | exact EqV_ptr | exact EqE_ptr | exact EqV_msl | exact EqE_msl | exact EqV_agg | exact EqE_agg | exact EqV_fn | exact EqE_fn | exact EqV_gd | exact EqE_gd | refine gM_splitN ?_ ?_ | refine gM_split ?_ ?_ |  refine condM_splitDN ?_ ?_ | refine condM_splitD ?_ ?_ | refine condM_splitN ?_ ?_ | refine condM_split ?_ ?_ | refine condM_any ?_ ?_ | intro _) | (simp [*]))
      all_goals (refine finW_intro () ?_ ?_; (· rw [← hj, List.drop_length]; rfl); (refine le_of ?_ ?_ <;> first | trivial | (simp [*]; done)))
  · subst hf
    repeat' (first | (with_reducible first | refine awp_seq ?_ | refine awp_blockS ?_ | refine awp_blockC ?_ | refine awp_blockR ?_ | refine awp_skip ?_ | refine awp_ret ?_ | refine awp_exit ?_ | refine awp_region ?_ | refine awp_regionD (id := 4) 6 mixed (by decide +kernel) ?_ | refine awp_condM ?_ | refine And.intro ?_ ?_ | apply gQ_merge | apply gE_merge | exact EqV_w | exact EqE_w | exact EqV_ptr | exact EqE_ptr | exact EqV_msl | exact EqE_msl | exact EqV_agg | exact EqE_agg | exact EqV_fn | exact EqE_fn | exact EqV_gd | exact EqE_gd | refine gM_splitN ?_ ?_ | refine gM_split ?_ ?_ |  refine condM_splitDN ?_ ?_ | refine condM_splitD ?_ ?_ | refine condM_splitN ?_ ?_ | refine condM_split ?_ ?_ | refine condM_any ?_ ?_ | intro _) | (simp [*]))
end Go.Proofs.YtiialcomflggcaaDoor
namespace Go.Proofs.YtiialcomflggcaaDoor
open Go Go.Fi
set_option maxRecDepth 20000

theorem knownB_drop (l : List Rider) (s : ByteArray) (k : Nat) (h : k < l.length) : knownB (l.drop k) s = (decide ((nth l k).name = s) || knownB (l.drop (k + 1)) s) := by
  rw [drop_nth l k h]; rfl
theorem knownB_end (l : List Rider) (s : ByteArray) : knownB (l.drop l.length) s = false := by
  rw [List.drop_length]; rfl
set_option maxHeartbeats 4000000 in
theorem rRiderErr_c (m : Grid) (hm : GridIn m) (l : List Rider) (hl : l.length < 100000) (r : Rider) (hr : r.name.size < 1000000) : RealCall Tryd.prog 56 [aMap m, .sl l.length (cRiders l), .agg (cRider r)] (.int .i64 (riderE m l r)) true := by
  have c1 := rIsName_c r.name hr
  have hml := hm.len
  clear hm
  unfold riderE
  cases hn : nameB r.name with
  | false =>
    rw [hn] at c1
    clear hn
    unfold aMap cRider at *
    simp only [errUnless, firstS]
    refine realcall_intro Tryd.func56 (by kernel_rfl) rfl (Nat.le_of_ble_eq_true (by kernel_rfl)) ?_
    simp only [Tryd.results56, Tryd.ntmps56]
    repeat' (first | (with_reducible first | refine awp_seq ?_ | refine awp_blockS ?_ | refine awp_blockC ?_ | refine awp_blockR ?_ | refine awp_skip ?_ | refine awp_ret ?_ | refine awp_exit ?_ | refine awp_region ?_ | refine awp_regionD (id := 6) 8 mixed (by decide +kernel) ?_ | refine awp_condM ?_ | refine And.intro ?_ ?_ | apply gQ_merge | apply gE_merge | exact EqV_w | exact EqE_w | exact EqV_ptr | exact EqE_ptr | exact EqV_msl | exact EqE_msl | exact EqV_agg | exact EqE_agg | exact EqV_fn | exact EqE_fn | exact EqV_gd | exact EqE_gd | refine gM_splitN ?_ ?_ | refine gM_split ?_ ?_ |  refine condM_splitDN ?_ ?_ | refine condM_splitD ?_ ?_ | refine condM_splitN ?_ ?_ | refine condM_split ?_ ?_ | refine condM_any ?_ ?_ | refine cw (c1) ?_ | intro _) | (simp [*]) | (refine cw_eq (c1) ?_ ?_; (· (simp [*]; done))))
  | true =>
    rw [hn] at c1
    clear hn
    have kK : Keep (knownB (l.drop 0) r.name = knownB l r.name) := keep rfl
    generalize knownB l r.name = K at *
    unfold aMap cRider at *
    simp only [eu_t]
    refine realcall_intro Tryd.func56 (by kernel_rfl) rfl (Nat.le_of_ble_eq_true (by kernel_rfl)) ?_
    simp only [Tryd.results56, Tryd.ntmps56]
    repeat' (first | (with_reducible first | refine awp_seq ?_ | refine awp_blockS ?_ | refine awp_blockC ?_ | refine awp_blockR ?_ | refine awp_skip ?_ | refine awp_ret ?_ | refine awp_exit ?_ | refine awp_region ?_ | refine awp_regionD (id := 6) 8 mixed (by decide +kernel) ?_ | refine awp_condM ?_ | refine And.intro ?_ ?_ | apply gQ_merge | apply gE_merge | exact EqV_w | exact EqE_w | exact EqV_ptr | exact EqE_ptr | exact EqV_msl | exact EqE_msl | exact EqV_agg | exact EqE_agg | exact EqV_fn | exact EqE_fn | exact EqV_gd | exact EqE_gd | refine gM_splitN ?_ ?_ | refine gM_split ?_ ?_ |  refine condM_splitDN ?_ ?_ | refine condM_splitD ?_ ?_ | refine condM_splitN ?_ ?_ | refine condM_split ?_ ?_ | refine condM_any ?_ ?_ | refine cw (c1) ?_ | intro _) | (simp [*]) | (refine cw_eq (c1) ?_ ?_; (· (simp [*]; done))))
    refine awp_for3 (fun (k : Nat) => k ≤ l.length ∧ knownB (l.drop k) r.name = K) [1, 3, 5] (fun (k : Nat) => [(7, .w false false (.int .i64 k))]) [0, 1] (fun (k : Nat) => []) (fun (k : Nat) => l.length - k) (fun (_u : Unit) => K = false) [3, 5] (fun (_u : Unit) => []) [0, 1] (fun (_u : Unit) => []) (0) ⟨Nat.zero_le _, kK⟩ (by simp) (by simp) (fun k hk => ?_) (fun _u hf => ?_)
    · obtain ⟨hk, hj⟩ := hk
      by_cases hlt : k < l.length
      · rw [knownB_drop _ _ _ hlt] at hj
        have kj := keep hj
        clear hj
        repeat' (first | (with_reducible first | refine awp_seq ?_ | refine awp_blockS ?_ | refine awp_blockC ?_ | refine awp_blockR ?_ | refine awp_skip ?_ | refine awp_ret ?_ | refine awp_exit ?_ | refine awp_region ?_ | refine awp_regionD (id := 6) 8 mixed (by decide +kernel) ?_ | refine awp_condM ?_ | refine And.intro ?_ ?_ | apply gQ_merge | apply gE_merge | exact EqV_w | exact EqE_w | exact EqV_ptr | exact EqE_ptr | exact EqV_msl | exact EqE_msl | exact EqV_agg | exact EqE_agg | exact EqV_fn | exact EqE_fn | exact EqV_gd | exact EqE_gd | refine gM_splitN ?_ ?_ | refine gM_split ?_ ?_ |  refine condM_splitDN ?_ ?_ | refine condM_splitD ?_ ?_ | refine condM_splitN ?_ ?_ | refine condM_split ?_ ?_ | refine condM_any ?_ ?_ | intro _) | (simp [*, hlt]))
        all_goals first
          | exact inI64 (by omega) (by omega)
          | omega
          | (rename_i hp; rw [decide_eq_true hp, Bool.true_or] at kj; subst kj; simp [firstS, errUnless]; done)
          | (rename_i hp; rw [decide_eq_false hp, Bool.false_or] at kj; (refine loopK_normal _ _ _ _ _ (k + 1) _ ?_ (by first | omega | (dsimp only; omega) | (simp; omega)) ?_; (· exact ⟨by omega, kj⟩); (refine le_of ?_ ?_ <;> first | trivial | (simp [*]; done))))
          | skip
      · have hke : k = l.length := by omega
        subst hke
        rw [knownB_end] at hj
        have kj := keep hj
        clear hj
        repeat' (first | (with_reducible first | refine awp_seq ?_ | refine awp_blockS ?_ | refine awp_blockC ?_ | refine awp_blockR ?_ | refine awp_skip ?_ | refine awp_ret ?_ | refine awp_exit ?_ | refine awp_region ?_ | refine awp_regionD (id := 6) 8 mixed (by decide +kernel) ?_ | refine awp_condM ?_ | refine And.intro ?_ ?_ | apply gQ_merge | apply gE_merge | exact EqV_w | exact EqE_w | exact EqV_ptr | exact EqE_ptr | exact EqV_msl | exact EqE_msl | exact EqV_agg | exact EqE_agg | exact EqV_fn | exact EqE_fn | exact EqV_gd | exact EqE_gd | refine gM_splitN ?_ ?_ | refine gM_split ?_ ?_ |  refine condM_splitDN ?_ ?_ | refine condM_splitD ?_ ?_ | refine condM_splitN ?_ ?_ | refine condM_split ?_ ?_ | refine condM_any ?_ ?_ | intro _) | (simp [*]))
        all_goals (refine finW_intro () ?_ ?_; (· exact kj.symm); (refine le_of ?_ ?_ <;> first | trivial | (simp [*]; done)))
    · subst hf
      unfold placeB rightB formB
      have w1 := rWithin_c r.frm 0 ((m.length : Int) - 1)
      have w2 := rWithin_c r.to 0 ((m.length : Int) - 1)
      have w3 := rWithin_c r.seats 1 8
      have w4 := rWithin_c r.detour 0 20000
      have w5 := rWithin_c r.ready 0 1000000
      have w6 := rWithin_c r.ridden 0 20000
      generalize winB r.frm 0 ((m.length : Int) - 1) = b1 at *
      generalize winB r.to 0 ((m.length : Int) - 1) = b2 at *
      generalize winB r.seats 1 8 = b3 at *
      generalize winB r.detour 0 20000 = b4 at *
      generalize winB r.ready 0 1000000 = b5 at *
      generalize winB r.ridden 0 20000 = b6 at *
      repeat' (first | (with_reducible first | refine awp_seq ?_ | refine awp_blockS ?_ | refine awp_blockC ?_ | refine awp_blockR ?_ | refine awp_skip ?_ | refine awp_ret ?_ | refine awp_exit ?_ | refine awp_region ?_ | refine awp_regionD (id := 6) 8 mixed (by decide +kernel) ?_ | refine awp_condM ?_ | refine And.intro ?_ ?_ | apply gQ_merge | apply gE_merge | exact EqV_w | exact EqE_w | exact EqV_ptr | exact EqE_ptr | exact EqV_msl | exact EqE_msl | exact EqV_agg | exact EqE_agg | exact EqV_fn | exact EqE_fn | exact EqV_gd | exact EqE_gd | refine gM_splitN ?_ ?_ | refine gM_split ?_ ?_ |  refine condM_splitDN ?_ ?_ | refine condM_splitD ?_ ?_ | refine condM_splitN ?_ ?_ | refine condM_split ?_ ?_ | refine condM_any ?_ ?_ | refine cw (w1) ?_ | refine cw (w2) ?_ | refine cw (w3) ?_ | refine cw (w4) ?_ | refine cw (w5) ?_ | refine cw (w6) ?_ | intro _) | (simp [*]) | (refine cw_eq (w1) ?_ ?_; (· (simp [*]; done))) | (refine cw_eq (w2) ?_ ?_; (· (simp [*]; done))) | (refine cw_eq (w3) ?_ ?_; (· (simp [*]; done))) | (refine cw_eq (w4) ?_ ?_; (· (simp [*]; done))) | (refine cw_eq (w5) ?_ ?_; (· (simp [*]; done))) | (refine cw_eq (w6) ?_ ?_; (· (simp [*]; done))))
      all_goals first
        | exact inI64 (by omega) (by omega)
        | skip
      all_goals (clear w1 w2 w3 w4 w5 w6 c1; simp only [errUnless, firstS, Bool.not_false, Bool.not_true]; cases b1 <;> cases b2 <;> simp_all [firstS, errUnless])
      all_goals (cases b3 <;> cases b4 <;> cases b5 <;> cases b6 <;> simp_all)
      all_goals (cases hab : r.aboard <;> by_cases h1 : r.ridden = 0 <;> by_cases h2 : r.ready = 0 <;> simp_all)
end Go.Proofs.YtiialcomflggcaaDoor
namespace Go.Proofs.YtiialcomflggcaaDoor
open Go Go.Fi
set_option maxRecDepth 20000

/-- small plans -/
structure PlanIn (p : Plan) : Prop where
  riders : p.riders.length < 10000
  stops : p.stops.length < 10000
  names : ∀ k, k < p.riders.length → (nth p.riders k).name.size < 1000000
def newE (m : Grid) (p : Plan) (r : Rider) : Int := firstS [errUnless (decide ((p.riders.length : Int) < 6)) 16, riderE m p.riders r, errUnless (!r.aboard) 22]
theorem newErr_c (m : Grid) (hm : GridIn m) (p : Plan) (hp : PlanIn p) (r : Rider) (hr : r.name.size < 1000000) : RealCall Tryd.prog 40 [aMap m, aPlan p, .agg (cRider r)] (.int .i64 (newE m p r)) true := by
  have hl := hp.riders
  have c1 := riderErr_c m hm p.riders (by omega) r hr
  clear hm hp
  unfold newE
  generalize riderE m p.riders r = E at *
  unfold aMap aPlan cPlan cRider at *
  refine realcall_intro Tryd.func40 (by kernel_rfl) rfl (Nat.le_of_ble_eq_true (by kernel_rfl)) ?_
  simp only [Tryd.results40, Tryd.ntmps40]
  repeat' (first | (with_reducible first | refine awp_seq ?_ | refine awp_blockS ?_ | refine awp_blockC ?_ | refine awp_blockR ?_ | refine awp_skip ?_ | refine awp_ret ?_ | refine awp_exit ?_ | refine awp_region ?_ | refine awp_regionD (id := 1) 17 mixed (by decide +kernel) ?_ | refine awp_condM ?_ | refine And.intro ?_ ?_ | apply gQ_merge | apply gE_merge | exact EqV_w | exact EqE_w | exact EqV_ptr | exact EqE_ptr | exact EqV_msl | exact EqE_msl | exact EqV_agg | exact EqE_agg | exact EqV_fn | exact EqE_fn | exact EqV_gd | exact EqE_gd | refine gM_splitN ?_ ?_ | refine gM_split ?_ ?_ |  refine condM_splitDN ?_ ?_ | refine condM_splitD ?_ ?_ | refine condM_splitN ?_ ?_ | refine condM_split ?_ ?_ | refine condM_any ?_ ?_ | refine cw (c1) ?_ | refine cw (unless_c _ _) ?_ | refine cw (first3_c _ _ _) ?_ | intro _) | (simp [*]) | (refine cw_eq (c1) ?_ ?_; (· (simp [*]; done))) | (refine cw_eq (unless_c _ _) ?_ ?_; (· (simp [*]; done))) | (refine cw_eq (first3_c _ _ _) ?_ ?_; (· (simp [*]; done))))
/-! ### plans -/
def ridersE (m : Grid) (l : List Rider) : List Rider → Nat → Option (Int × Int)
  | [], _ => none
  | r :: rs, i => if riderE m (l.take i) r = 0 then ridersE m l rs (i + 1) else some ((i : Int), riderE m (l.take i) r)
def seatsAb (r : Rider) : Int := if r.aboard = true then r.seats else 0
def aboardS : List Rider → Int
  | [] => 0
  | r :: rs => seatsAb r + aboardS rs
theorem aboardS_snoc (l : List Rider) (r : Rider) : aboardS (l ++ [r]) = aboardS l + seatsAb r := by
  induction l with
  | nil => simp [aboardS]
  | cons x l ih => simp only [List.cons_append, aboardS, ih]; omega
theorem aboardS_succ (l : List Rider) (k : Nat) (h : k < l.length) : aboardS (l.take (k + 1)) = aboardS (l.take k) + seatsAb (nth l k) := by
  rw [take_succ_nth l k h, aboardS_snoc]
def abB (p : Plan) (s : Stop) : Bool := (nth p.riders s.rider.toNat).aboard
def stopE (p : Plan) (i : Nat) (s : Stop) : Int :=
  if winB s.rider 0 ((p.riders.length : Int) - 1) = true then
    firstS [errUnless (!elemB (p.stops.take i) s) 26, errUnless (s.out || !abB p s) 22, errUnless (!s.out || (abB p s || elemB (p.stops.take i) ⟨s.rider, false⟩)) 9]
  else 6
def stopsE (p : Plan) : List Stop → Nat → Option (Int × Int)
  | [], _ => none
  | s :: ss, i => if stopE p i s = 0 then stopsE p ss (i + 1) else some ((i : Int), stopE p i s)
def gapE (p : Plan) (i : Nat) : Int := errUnless (elemB p.stops ⟨(i : Int), true⟩) 14
def gapsE (p : Plan) : Nat → Nat → Option (Int × Int)
  | 0, _ => none
  | n + 1, i => if gapE p i = 0 then gapsE p n (i + 1) else some ((i : Int), 14)
def carE (m : Grid) (p : Plan) : Int := firstS [errUnless (placeB m p.car.at_) 6, errUnless (winB p.car.time 0 1000000 && winB p.car.seats 1 8) 2, errUnless (decide ((p.riders.length : Int) ≤ 6)) 8]
def plan3 (p : Plan) : Int × Int := match gapsE p p.riders.length 0 with | some x => x | none => (0, 0)
def plan2 (p : Plan) : Int × Int := match stopsE p p.stops 0 with | some x => x | none => plan3 p
def plan1 (m : Grid) (p : Plan) : Int × Int := match ridersE m p.riders p.riders 0 with | some x => x | none => if p.car.seats < aboardS p.riders then (0, 16) else plan2 p
/-- the number of what is wrong, and the error of a plan of a right map -/
def planS (m : Grid) (p : Plan) : Int × Int := if carE m p = 0 then plan1 m p else (0, carE m p)
def pairI (x : Int × Int) : PV := .tup [.int .i64 x.1, .int .i64 x.2]
theorem firstS_zero {l : List Int} (h : firstS l = 0) : ∀ e ∈ l, e = 0 := by
  induction l with
  | nil => intro e he; cases he
  | cons x l ih =>
    intro e he
    unfold firstS at h
    split at h
    · rename_i hx
      rcases List.mem_cons.1 he with rfl | he
      · exact hx
      · exact ih h e he
    · rename_i hx; exact absurd h hx
theorem unless_zero {b : Bool} {e : Int} (h : errUnless b e = 0) (he : e ≠ 0) : b = true := by
  cases b with
  | true => rfl
  | false => exact absurd h he
theorem winB_iff {n lo hi : Int} : winB n lo hi = true ↔ lo ≤ n ∧ n ≤ hi := by simp [winB]
/-- what is known of a right rider -/
structure RiderOk (m : Grid) (r : Rider) : Prop where
  f0 : 0 ≤ r.frm
  f1 : r.frm < m.length
  t0 : 0 ≤ r.to
  t1 : r.to < m.length
  ne : r.frm ≠ r.to
  s0 : 1 ≤ r.seats
  s1 : r.seats ≤ 8
  d0 : 0 ≤ r.detour
  d1 : r.detour ≤ 20000
  y0 : 0 ≤ r.ready
  y1 : r.ready ≤ 1000000
  g0 : 0 ≤ r.ridden
  g1 : r.ridden ≤ 20000
  form : formB r = true
  name : nameB r.name = true
theorem riderE_ok {m : Grid} {l : List Rider} {r : Rider} (h : riderE m l r = 0) : RiderOk m r ∧ knownB l r.name = false := by
  have h' := firstS_zero h
  have h1 := unless_zero (h' (errUnless (nameB r.name) 4) (by simp)) (by decide)
  have h2 := unless_zero (h' (errUnless (!knownB l r.name) 5) (by simp)) (by decide)
  have h3 := unless_zero (h' (errUnless (placeB m r.frm && placeB m r.to) 6) (by simp)) (by decide)
  have h4 := unless_zero (h' (errUnless (!decide (r.frm = r.to)) 13) (by simp)) (by decide)
  have h5 := unless_zero (h' (errUnless (rightB r) 2) (by simp)) (by decide)
  have h6 := unless_zero (h' (errUnless (formB r) 3) (by simp)) (by decide)
  simp only [placeB, rightB, Bool.and_eq_true, winB_iff, Bool.not_eq_true', decide_eq_false_iff_not] at h3 h4 h5 h2
  exact ⟨⟨by omega, by omega, by omega, by omega, h4, by omega, by omega, by omega, by omega, by omega, by omega, by omega, by omega, h6, h1⟩, h2⟩
end Go.Proofs.YtiialcomflggcaaDoor

