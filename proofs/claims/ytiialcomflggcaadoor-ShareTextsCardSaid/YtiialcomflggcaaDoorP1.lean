/- Contracts of functions for this claim: lemmas alone. -/
import Derived.Test.YtiialcomflggcaaDoorPTypes
import Derived.Lib.LaidTab
import Derived.Test.YtiialcomflggcaaDoorLe
import Derived.Test.YtiialcomflggcaaDoorLm
import Derived.Test.YtiialcomflggcaaDoorLj
set_option linter.unusedSimpArgs false
set_option linter.unusedVariables false
namespace Go.Proofs.YtiialcomflggcaaDoor
open Go Go.Fi Go.RowKit
set_option maxRecDepth 20000

/-! ### what the package-level variables hold -/
theorem var_keep {P : Program} {w w' : World} {name : String} {cs : Array Value} (h : w.var? P name = some cs) (hb : Below w.heap.size w w') : w'.var? P name = some cs := by
  unfold World.var? at h ⊢
  cases hg : P.globalNamed name with
  | none => rw [hg] at h; cases h
  | some g =>
    rw [hg] at h
    simp only [Option.bind_some] at h ⊢
    have hlt : g < w.heap.size := by
      rcases Nat.lt_or_ge g w.heap.size with h1 | h1
      · exact h1
      · rw [Array.getElem?_eq_none h1] at h; cases h
    rw [hb.block g hlt]; exact h
structure LaidOk (w : World) : Prop where
  maxLen : ∃ m, w.var? Tryd.prog "internal/bytealg.MaxLen" = some #[.int .i64 m]
instance : LaidW where
  ok := LaidOk
  keep h hb := ⟨h.maxLen.imp fun _ e => var_keep e hb⟩
end Go.Proofs.YtiialcomflggcaaDoor
namespace Go.Proofs.YtiialcomflggcaaDoor
open Go Go.Fi

structure Rider where
  name : ByteArray
  frm : Int
  to : Int
  seats : Int
  detour : Int
  ready : Int
  aboard : Bool
  ridden : Int
  deriving Inhabited
structure Car where
  at_ : Int
  time : Int
  seats : Int
  deriving Inhabited
structure Stop where
  rider : Int
  out : Bool
  deriving Inhabited, DecidableEq
structure Plan where
  car : Car
  riders : List Rider
  stops : List Stop
  deriving Inhabited
abbrev Grid := List (List Int)

def ints (l : List Int) : List PV := l.map (.int .i64)
@[simp] theorem ints_len (l : List Int) : (ints l).length = l.length := by simp [ints]
@[simp] theorem ints_get (l : List Int) (k : Nat) (h : k < l.length) : nthP (ints l) k = .int .i64 (nth l k) := nthP_map _ l k h
def cRow (r : List Int) : PV := .sl r.length (ints r)
def cRows (m : Grid) : List PV := m.map cRow
@[simp] theorem cRows_len (m : Grid) : (cRows m).length = m.length := by simp [cRows]
@[simp] theorem cRows_get (m : Grid) (k : Nat) (h : k < m.length) : nthP (cRows m) k = .sl (nth m k).length (ints (nth m k)) := nthP_map cRow m k h
def cMap (m : Grid) : List PV := [.sl m.length (cRows m)]
def aMap (m : Grid) : PV := .agg [.sl m.length (cRows m)]

def cRider (r : Rider) : List PV := [.str r.name, .int .i64 r.frm, .int .i64 r.to, .int .i64 r.seats, .int .i64 r.detour, .int .i64 r.ready, .bool r.aboard, .int .i64 r.ridden]
def cRiders (l : List Rider) : List PV := l.flatMap cRider
@[simp] theorem cRiders_len (l : List Rider) : (cRiders l).length = l.length * 8 := flatMap_len cRider 8 (fun _ => rfl) l
@[simp] theorem cRiders_drop (l : List Rider) (k : Nat) (h : k < l.length) : ((cRiders l).drop (k * 8)).take 8 = cRider (nth l k) := flatMap_drop cRider 8 (fun _ => rfl) l k h
@[simp] theorem cRiders_0 (l : List Rider) (k : Nat) (h : k < l.length) : nthP (cRiders l) (k * 8) = .str (nth l k).name := flatMap_get cRider 8 (fun _ => rfl) l k 0 h (by omega)
@[simp] theorem cRiders_1 (l : List Rider) (k : Nat) (h : k < l.length) : nthP (cRiders l) (k * 8 + 1) = .int .i64 (nth l k).frm := flatMap_get cRider 8 (fun _ => rfl) l k 1 h (by omega)
@[simp] theorem cRiders_2 (l : List Rider) (k : Nat) (h : k < l.length) : nthP (cRiders l) (k * 8 + 2) = .int .i64 (nth l k).to := flatMap_get cRider 8 (fun _ => rfl) l k 2 h (by omega)
@[simp] theorem cRiders_3 (l : List Rider) (k : Nat) (h : k < l.length) : nthP (cRiders l) (k * 8 + 3) = .int .i64 (nth l k).seats := flatMap_get cRider 8 (fun _ => rfl) l k 3 h (by omega)
@[simp] theorem cRiders_4 (l : List Rider) (k : Nat) (h : k < l.length) : nthP (cRiders l) (k * 8 + 4) = .int .i64 (nth l k).detour := flatMap_get cRider 8 (fun _ => rfl) l k 4 h (by omega)
@[simp] theorem cRiders_5 (l : List Rider) (k : Nat) (h : k < l.length) : nthP (cRiders l) (k * 8 + 5) = .int .i64 (nth l k).ready := flatMap_get cRider 8 (fun _ => rfl) l k 5 h (by omega)
@[simp] theorem cRiders_6 (l : List Rider) (k : Nat) (h : k < l.length) : nthP (cRiders l) (k * 8 + 6) = .bool (nth l k).aboard := flatMap_get cRider 8 (fun _ => rfl) l k 6 h (by omega)
@[simp] theorem cRiders_7 (l : List Rider) (k : Nat) (h : k < l.length) : nthP (cRiders l) (k * 8 + 7) = .int .i64 (nth l k).ridden := flatMap_get cRider 8 (fun _ => rfl) l k 7 h (by omega)
def cStop (s : Stop) : List PV := [.int .i64 s.rider, .bool s.out]
def cStops (l : List Stop) : List PV := l.flatMap cStop
@[simp] theorem cStops_len (l : List Stop) : (cStops l).length = l.length * 2 := flatMap_len cStop 2 (fun _ => rfl) l
@[simp] theorem cStops_drop (l : List Stop) (k : Nat) (h : k < l.length) : ((cStops l).drop (k * 2)).take 2 = cStop (nth l k) := flatMap_drop cStop 2 (fun _ => rfl) l k h
@[simp] theorem cStops_0 (l : List Stop) (k : Nat) (h : k < l.length) : nthP (cStops l) (k * 2) = .int .i64 (nth l k).rider := flatMap_get cStop 2 (fun _ => rfl) l k 0 h (by omega)
@[simp] theorem cStops_1 (l : List Stop) (k : Nat) (h : k < l.length) : nthP (cStops l) (k * 2 + 1) = .bool (nth l k).out := flatMap_get cStop 2 (fun _ => rfl) l k 1 h (by omega)
def cPlan (p : Plan) : List PV := [.int .i64 p.car.at_, .int .i64 p.car.time, .int .i64 p.car.seats, .sl p.riders.length (cRiders p.riders), .sl p.stops.length (cStops p.stops)]
def aPlan (p : Plan) : PV := .agg (cPlan p)

def errUnless (ok : Bool) (e : Int) : Int := if ok then 0 else e
theorem unless_c (ok : Bool) (e : Int) : RealCall Tryd.prog 26 [.bool ok, .int .i64 e] (.int .i64 (errUnless ok e)) true := by
  refine realcall_intro Tryd.func26 (by kernel_rfl) rfl (Nat.le_of_ble_eq_true (by kernel_rfl)) ?_
  simp only [Tryd.results26, Tryd.ntmps26]
  repeat' (first | (with_reducible first | refine awp_seq ?_ | refine awp_blockS ?_ | refine awp_blockC ?_ | refine awp_blockR ?_ | refine awp_skip ?_ | refine awp_ret ?_ | refine awp_exit ?_ | refine awp_region ?_ | refine awp_condM ?_ | refine And.intro ?_ ?_ | refine gE_splitN ?_ ?_ | refine gE_split ?_ ?_ | refine gQ_splitN ?_ ?_ | refine gQ_split ?_ ?_ | refine gM_splitN ?_ ?_ | refine gM_split ?_ ?_ | refine condM_splitDN ?_ ?_ | refine condM_splitD ?_ ?_ | refine condM_splitN ?_ ?_ | refine condM_split ?_ ?_ | refine condM_any ?_ ?_ | intro _) | (simp [*]))
  all_goals simp_all [errUnless]
theorem mixed : Tryd.prog.follows .mixedOrders = true := by kernel_rfl
def winB (n lo hi : Int) : Bool := decide (lo ≤ n) && decide (n ≤ hi)
theorem within_c (n lo hi : Int) : RealCall Tryd.prog 23 [.int .i64 n, .int .i64 lo, .int .i64 hi] (.bool (winB n lo hi)) true := by
  refine realcall_intro Tryd.func23 (by kernel_rfl) rfl (Nat.le_of_ble_eq_true (by kernel_rfl)) ?_
  simp only [Tryd.results23, Tryd.ntmps23]
  repeat' (first | (with_reducible first | refine awp_seq ?_ | refine awp_blockS ?_ | refine awp_blockC ?_ | refine awp_blockR ?_ | refine awp_skip ?_ | refine awp_ret ?_ | refine awp_exit ?_ | refine awp_region ?_ | refine awp_condM ?_ | refine And.intro ?_ ?_ | refine gE_splitN ?_ ?_ | refine gE_split ?_ ?_ | refine gQ_splitN ?_ ?_ | refine gQ_split ?_ ?_ | refine gM_splitN ?_ ?_ | refine gM_split ?_ ?_ | refine condM_splitDN ?_ ?_ | refine condM_splitD ?_ ?_ | refine condM_splitN ?_ ?_ | refine condM_split ?_ ?_ | refine condM_any ?_ ?_ | intro _) | (simp [*, winB]))
theorem rWithin_c (n lo hi : Int) : RealCall Tryd.prog 34 [.int .i64 n, .int .i64 lo, .int .i64 hi] (.bool (winB n lo hi)) true := by
  refine realcall_intro Tryd.func34 (by kernel_rfl) rfl (Nat.le_of_ble_eq_true (by kernel_rfl)) ?_
  simp only [Tryd.results34, Tryd.ntmps34]
  repeat' (first | (with_reducible first | refine awp_seq ?_ | refine awp_blockS ?_ | refine awp_blockC ?_ | refine awp_blockR ?_ | refine awp_skip ?_ | refine awp_ret ?_ | refine awp_exit ?_ | refine awp_region ?_ | refine awp_condM ?_ | refine And.intro ?_ ?_ | refine gE_splitN ?_ ?_ | refine gE_split ?_ ?_ | refine gQ_splitN ?_ ?_ | refine gQ_split ?_ ?_ | refine gM_splitN ?_ ?_ | refine gM_split ?_ ?_ | refine condM_splitDN ?_ ?_ | refine condM_splitD ?_ ?_ | refine condM_splitN ?_ ?_ | refine condM_split ?_ ?_ | refine condM_any ?_ ?_ | intro _) | (simp [*, winB]))
def firstS : List Int → Int
  | [] => 0
  | e :: r => if e = 0 then firstS r else e
theorem drop_nth {α : Type} [Inhabited α] (l : List α) (k : Nat) (h : k < l.length) : l.drop k = nth l k :: l.drop (k + 1) := by
  rw [List.drop_eq_getElem_cons h]; simp [nth, List.getD_eq_getElem?_getD, List.getElem?_eq_getElem h]
theorem first_c (l : List Int) (h : l.length < 1000) : RealCall Tryd.prog 25 [.sl l.length (ints l)] (.int .i64 (firstS l)) true := by
  refine realcall_intro Tryd.func25 (by kernel_rfl) rfl (Nat.le_of_ble_eq_true (by kernel_rfl)) ?_
  simp only [Tryd.results25, Tryd.ntmps25]
  repeat' (first | (with_reducible first | refine awp_seq ?_ | refine awp_blockS ?_ | refine awp_blockC ?_ | refine awp_blockR ?_ | refine awp_skip ?_ | refine awp_ret ?_ | refine awp_exit ?_ | refine awp_region ?_ | refine awp_condM ?_ | refine And.intro ?_ ?_ | refine gE_splitN ?_ ?_ | refine gE_split ?_ ?_ | refine gQ_splitN ?_ ?_ | refine gQ_split ?_ ?_ | refine gM_splitN ?_ ?_ | refine gM_split ?_ ?_ | refine condM_splitDN ?_ ?_ | refine condM_splitD ?_ ?_ | refine condM_splitN ?_ ?_ | refine condM_split ?_ ?_ | refine condM_any ?_ ?_ | intro _) | (simp [*]))
  refine awp_for2 (fun k : Nat => k ≤ l.length ∧ firstS (l.drop k) = firstS l) [5, 6] (fun k => [(7, .w false false (.int .i64 k))]) (fun _ => []) (fun k => l.length - k)
    (fun _ : Unit => firstS l = 0) [] (fun _ => []) (fun _ => []) 0 ⟨Nat.zero_le _, rfl⟩ (by simp) (by simp) (fun k hk => ?_) (fun _ hf => ?_)
  · obtain ⟨hk, hf⟩ := hk
    repeat' (first | (with_reducible first | refine awp_seq ?_ | refine awp_blockS ?_ | refine awp_blockC ?_ | refine awp_blockR ?_ | refine awp_skip ?_ | refine awp_ret ?_ | refine awp_exit ?_ | refine awp_region ?_ | refine awp_condM ?_ | refine And.intro ?_ ?_ | refine gE_splitN ?_ ?_ | refine gE_split ?_ ?_ | refine gQ_splitN ?_ ?_ | refine gQ_split ?_ ?_ | refine gM_splitN ?_ ?_ | refine gM_split ?_ ?_ | refine condM_splitDN ?_ ?_ | refine condM_splitD ?_ ?_ | refine condM_splitN ?_ ?_ | refine condM_split ?_ ?_ | refine condM_any ?_ ?_ | intro _) | (simp [*, firstS]))
    all_goals first
      | exact inI64 (by omega) (by omega)
      | omega
      | (rw [← hf, drop_nth l k (by omega)]; simp_all [firstS]; done)
      | (refine loopK_normal _ _ _ _ _ (k + 1) _ ?_ (by first | omega | (dsimp only; omega) | (simp; omega)) ?_; (· refine ⟨by omega, ?_⟩; rw [← hf, drop_nth l k (by omega)]; simp_all [firstS]); (refine le_of ?_ ?_ <;> first | trivial | (simp [*]; done)))
      | (refine finW_intro () ?_ ?_; (· rw [← hf, List.drop_eq_nil_of_le (by omega)]; rfl); (refine le_of ?_ ?_ <;> first | trivial | (simp [*]; done)))
  · repeat' (first | (with_reducible first | refine awp_seq ?_ | refine awp_blockS ?_ | refine awp_blockC ?_ | refine awp_blockR ?_ | refine awp_skip ?_ | refine awp_ret ?_ | refine awp_exit ?_ | refine awp_region ?_ | refine awp_condM ?_ | refine And.intro ?_ ?_ | refine gE_splitN ?_ ?_ | refine gE_split ?_ ?_ | refine gQ_splitN ?_ ?_ | refine gQ_split ?_ ?_ | refine gM_splitN ?_ ?_ | refine gM_split ?_ ?_ | refine condM_splitDN ?_ ?_ | refine condM_splitD ?_ ?_ | refine condM_splitN ?_ ?_ | refine condM_split ?_ ?_ | refine condM_any ?_ ?_ | intro _) | (simp [*]))
theorem first2_c (a b : Int) : RealCall Tryd.prog 25 [.sl 2 [.int .i64 a, .int .i64 b]] (.int .i64 (firstS [a, b])) true := first_c [a, b] (Nat.le_of_ble_eq_true rfl)
theorem first3_c (a b c : Int) : RealCall Tryd.prog 25 [.sl 3 [.int .i64 a, .int .i64 b, .int .i64 c]] (.int .i64 (firstS [a, b, c])) true := first_c [a, b, c] (Nat.le_of_ble_eq_true rfl)
theorem first6_c (a b c d e f : Int) : RealCall Tryd.prog 25 [.sl 6 [.int .i64 a, .int .i64 b, .int .i64 c, .int .i64 d, .int .i64 e, .int .i64 f]] (.int .i64 (firstS [a, b, c, d, e, f])) true := first_c [a, b, c, d, e, f] (Nat.le_of_ble_eq_true rfl)

/-! ### names -/
def letterB (c : Nat) : Bool := decide ((97 : Int) ≤ c) && decide ((c : Int) ≤ 122) || decide ((65 : Int) ≤ c) && decide ((c : Int) ≤ 90)
def okB (k c : Nat) : Bool := letterB c || !(decide (k = 0)) && (decide (c = 45) || decide ((48 : Int) ≤ c) && decide ((c : Int) ≤ 57))
def okUpto (s : ByteArray) : Nat → Bool
  | 0 => true
  | k + 1 => okUpto s k && okB k (byteAt s k)
theorem okUpto_false (s : ByteArray) (k : Nat) (h : okB k (byteAt s k) = false) : ∀ n, k < n → okUpto s n = false
  | 0, hn => by omega
  | n + 1, hn => by
    unfold okUpto
    by_cases e : k = n
    · subst e; simp [h]
    · rw [okUpto_false s k h n (by omega)]; rfl
def nameB (s : ByteArray) : Bool := okUpto s s.size && decide (s.size ≠ 0) && decide (s.size ≤ 12)
theorem nameB_no0 {s : ByteArray} (h : s.size = 0) : nameB s = false := by simp [nameB, h]
theorem nameB_no12 {s : ByteArray} (h : 12 < s.size) : nameB s = false := by simp [nameB]; intros; omega
theorem nameB_yes {s : ByteArray} (h : okUpto s s.size = true) (h0 : s.size ≠ 0) : nameB s = decide (s.size ≤ 12) := by simp [nameB, h, h0]
set_option maxHeartbeats 4000000 in
theorem isName_c (s : ByteArray) (hs : s.size < 1000000) : RealCall Tryd.prog 27 [.str s] (.bool (nameB s)) true := by
  refine realcall_intro Tryd.func27 (by kernel_rfl) rfl (Nat.le_of_ble_eq_true (by kernel_rfl)) ?_
  simp only [Tryd.results27, Tryd.ntmps27]
  repeat' (first | (with_reducible first | refine awp_seq ?_ | refine awp_blockS ?_ | refine awp_blockC ?_ | refine awp_blockR ?_ | refine awp_skip ?_ | refine awp_ret ?_ | refine awp_exit ?_ | refine awp_region ?_ | refine awp_condM ?_ | refine And.intro ?_ ?_ | refine gE_splitN ?_ ?_ | refine gE_split ?_ ?_ | refine gQ_splitN ?_ ?_ | refine gQ_split ?_ ?_ | refine gM_splitN ?_ ?_ | refine gM_split ?_ ?_ | refine condM_splitDN ?_ ?_ | refine condM_splitD ?_ ?_ | refine condM_splitN ?_ ?_ | refine condM_split ?_ ?_ | refine condM_any ?_ ?_ | intro _) | (simp [*]))
  refine awp_for2 (fun k : Nat => k ≤ s.size ∧ okUpto s k = true) [0, 7, 8] (fun k => [(9, .w false false (.int .i64 k))]) (fun _ => []) (fun k => s.size - k)
    (fun _ : Unit => okUpto s s.size = true) [0] (fun _ => []) (fun _ => []) 0 ⟨Nat.zero_le _, rfl⟩ (by simp) (by simp) (fun k hk => ?_) (fun _ hf => ?_)
  · obtain ⟨hk, hf⟩ := hk
    repeat' (first | (with_reducible first | refine awp_seq ?_ | refine awp_blockS ?_ | refine awp_blockC ?_ | refine awp_blockR ?_ | refine awp_skip ?_ | refine awp_ret ?_ | refine awp_exit ?_ | refine awp_region ?_ | refine awp_condM ?_ | refine And.intro ?_ ?_ | refine gE_splitN ?_ ?_ | refine gE_split ?_ ?_ | refine gQ_splitN ?_ ?_ | refine gQ_split ?_ ?_ | refine gM_splitN ?_ ?_ | refine gM_split ?_ ?_ | refine condM_splitDN ?_ ?_ | refine condM_splitD ?_ ?_ | refine condM_splitN ?_ ?_ | refine condM_split ?_ ?_ | refine condM_any ?_ ?_ | intro _) | (simp [*]))
    all_goals first
      | exact inI64 (by omega) (by omega)
      | omega
      | (refine loopK_normal _ _ _ _ _ (k + 1) _ ?_ (by first | omega | (dsimp only; omega) | (simp; omega)) ?_; (· refine ⟨by omega, ?_⟩; unfold okUpto; rw [hf]; clear hf; simp [okB, letterB] at *; omega); (refine le_of ?_ ?_ <;> first | trivial | (simp [*]; done)))
      | (refine finW_intro () ?_ ?_; (· rw [show s.size = k by omega]; exact hf); (refine le_of ?_ ?_ <;> first | trivial | (simp [*]; done)))
      | (unfold nameB; rw [okUpto_false s k (by clear hf; simp [okB, letterB] at *; omega) s.size (by omega)]; rfl)
  · repeat' (first | (with_reducible first | refine awp_seq ?_ | refine awp_blockS ?_ | refine awp_blockC ?_ | refine awp_blockR ?_ | refine awp_skip ?_ | refine awp_ret ?_ | refine awp_exit ?_ | refine awp_region ?_ | refine awp_condM ?_ | refine And.intro ?_ ?_ | refine gE_splitN ?_ ?_ | refine gE_split ?_ ?_ | refine gQ_splitN ?_ ?_ | refine gQ_split ?_ ?_ | refine gM_splitN ?_ ?_ | refine gM_split ?_ ?_ | refine condM_splitDN ?_ ?_ | refine condM_splitD ?_ ?_ | refine condM_splitN ?_ ?_ | refine condM_split ?_ ?_ | refine condM_any ?_ ?_ | intro _) | (simp [*]))
    · rename_i h0
      have h0' : s ≠ { data := #[] } := by simpa using h0
      rw [nameB_yes hf (fun h => h0' ((str_empty s).2 h))]; simp; omega
    · rename_i h0; rw [nameB_no0 ((str_empty s).1 (by have h1 : s = { data := #[] } := by simpa using h0
                                                      exact h1))]
set_option maxHeartbeats 4000000 in
theorem rIsName_c (s : ByteArray) (hs : s.size < 1000000) : RealCall Tryd.prog 31 [.str s] (.bool (nameB s)) true := by
  refine realcall_intro Tryd.func31 (by kernel_rfl) rfl (Nat.le_of_ble_eq_true (by kernel_rfl)) ?_
  simp only [Tryd.results31, Tryd.ntmps31]
  repeat' (first | (with_reducible first | refine awp_seq ?_ | refine awp_blockS ?_ | refine awp_blockC ?_ | refine awp_blockR ?_ | refine awp_skip ?_ | refine awp_ret ?_ | refine awp_exit ?_ | refine awp_region ?_ | refine awp_condM ?_ | refine And.intro ?_ ?_ | refine gE_splitN ?_ ?_ | refine gE_split ?_ ?_ | refine gQ_splitN ?_ ?_ | refine gQ_split ?_ ?_ | refine gM_splitN ?_ ?_ | refine gM_split ?_ ?_ | refine condM_splitDN ?_ ?_ | refine condM_splitD ?_ ?_ | refine condM_splitN ?_ ?_ | refine condM_split ?_ ?_ | refine condM_any ?_ ?_ | intro _) | (simp [*]))
  · exact nameB_no12 (by omega)
  rotate_left
  · rename_i h0; exact nameB_no0 (by have := of_decide_eq_true h0; omega)
  rename_i hA hB
  have hpos : s.size ≠ 0 := by have := of_decide_eq_false hA; omega
  refine awp_for2 (fun k : Nat => k ≤ s.size ∧ okUpto s k = true) [0] (fun k => [(3, .w false false (.int .i64 k))]) (fun _ => []) (fun k => s.size - k)
    (fun _ : Unit => okUpto s s.size = true) [0] (fun _ => []) (fun _ => []) 0 ⟨Nat.zero_le _, rfl⟩ (by simp) (by simp) (fun k hk => ?_) (fun _ hf => ?_)
  · obtain ⟨hk, hf⟩ := hk
    repeat' (first | (with_reducible first | refine awp_seq ?_ | refine awp_blockS ?_ | refine awp_blockC ?_ | refine awp_blockR ?_ | refine awp_skip ?_ | refine awp_ret ?_ | refine awp_exit ?_ | refine awp_region ?_ | refine awp_condM ?_ | refine And.intro ?_ ?_ | refine gE_splitN ?_ ?_ | refine gE_split ?_ ?_ | refine gQ_splitN ?_ ?_ | refine gQ_split ?_ ?_ | refine gM_splitN ?_ ?_ | refine gM_split ?_ ?_ | refine condM_splitDN ?_ ?_ | refine condM_splitD ?_ ?_ | refine condM_splitN ?_ ?_ | refine condM_split ?_ ?_ | refine condM_any ?_ ?_ | intro _) | (simp [*]))
    all_goals first
      | exact inI64 (by omega) (by omega)
      | omega
      | (refine loopK_normal _ _ _ _ _ (k + 1) _ ?_ (by first | omega | (dsimp only; omega) | (simp; omega)) ?_; (· refine ⟨by omega, ?_⟩; unfold okUpto; rw [hf]; clear hf; simp [okB, letterB] at *; omega); (refine le_of ?_ ?_ <;> first | trivial | (simp [*]; done)))
      | (refine finW_intro () ?_ ?_; (· rw [show s.size = k by omega]; exact hf); (refine le_of ?_ ?_ <;> first | trivial | (simp [*]; done)))
      | (unfold nameB; rw [okUpto_false s k (by clear hf; simp [okB, letterB] at *; omega) s.size (by omega)]; rfl)
  · repeat' (first | (with_reducible first | refine awp_seq ?_ | refine awp_blockS ?_ | refine awp_blockC ?_ | refine awp_blockR ?_ | refine awp_skip ?_ | refine awp_ret ?_ | refine awp_exit ?_ | refine awp_region ?_ | refine awp_condM ?_ | refine And.intro ?_ ?_ | refine gE_splitN ?_ ?_ | refine gE_split ?_ ?_ | refine gQ_splitN ?_ ?_ | refine gQ_split ?_ ?_ | refine gM_splitN ?_ ?_ | refine gM_split ?_ ?_ | refine condM_splitDN ?_ ?_ | refine condM_splitD ?_ ?_ | refine condM_splitN ?_ ?_ | refine condM_split ?_ ?_ | refine condM_any ?_ ?_ | intro _) | (simp [*]))
    all_goals (rw [nameB_yes hf hpos]; simp; omega)
end Go.Proofs.YtiialcomflggcaaDoor
namespace Go.Proofs.YtiialcomflggcaaDoor
open Go Go.Fi

/-- hidden from simp -/
def Keep (p : Prop) : Prop := p
theorem keep {p : Prop} (h : p) : Keep p := h
/-! ### maps -/
@[simp] theorem eu_t (e : Int) : errUnless true e = 0 := rfl
@[simp] theorem eu_f (e : Int) : errUnless false e = e := rfl
def cellE (i j : Nat) (t : Int) : Int := firstS [errUnless (winB t 0 20000) 2, errUnless (!(decide ((i : Int) = j)) || decide (t = 0)) 11]
def rowS (i : Nat) : List Int → Nat → Option (Int × Int × Int)
  | [], _ => none
  | t :: r, j => if cellE i j t = 0 then rowS i r (j + 1) else some (i, j, cellE i j t)
def rowsS (n : Nat) : Grid → Nat → Int × Int × Int
  | [], _ => (0, 0, 0)
  | row :: rs, i => if row.length = n then (match rowS i row 0 with | some x => x | none => rowsS n rs (i + 1)) else (i, 0, 10)
def mapS (m : Grid) : Int × Int × Int := if m.length = 0 then (0, 0, 10) else if 12 < m.length then (0, 0, 8) else rowsS m.length m 0
def rowJ (m : Grid) (k j : Nat) : Int × Int × Int := match rowS k ((nth m k).drop j) j with | some x => x | none => rowsS m.length (m.drop (k + 1)) (k + 1)
theorem rowsS_bad (m : Grid) (k : Nat) (h : k < m.length) (hb : (nth m k).length ≠ m.length) : rowsS m.length (m.drop k) k = ((k : Int), 0, 10) := by
  rw [drop_nth m k h]; simp only [rowsS]; rw [if_neg hb]
theorem rowsS_in (m : Grid) (k : Nat) (h : k < m.length) (hb : (nth m k).length = m.length) : rowsS m.length (m.drop k) k = rowJ m k 0 := by
  rw [drop_nth m k h]; simp only [rowsS, rowJ, List.drop_zero]; rw [if_pos hb]
theorem rowsS_end (m : Grid) (k : Nat) (h : m.length ≤ k) : rowsS m.length (m.drop k) k = (0, 0, 0) := by
  rw [List.drop_eq_nil_of_le h]; rfl
theorem rowJ_ok (m : Grid) (k j : Nat) (h : j < (nth m k).length) (h0 : cellE k j (nth (nth m k) j) = 0) : rowJ m k j = rowJ m k (j + 1) := by
  unfold rowJ; rw [drop_nth _ j h]; simp only [rowS]; rw [if_pos h0]
theorem rowJ_bad (m : Grid) (k j : Nat) (h : j < (nth m k).length) (h0 : cellE k j (nth (nth m k) j) ≠ 0) : rowJ m k j = ((k : Int), (j : Int), cellE k j (nth (nth m k) j)) := by
  unfold rowJ; rw [drop_nth _ j h]; simp only [rowS]; rw [if_neg h0]
theorem rowJ_end (m : Grid) (k j : Nat) (h : (nth m k).length ≤ j) : rowJ m k j = rowsS m.length (m.drop (k + 1)) (k + 1) := by
  unfold rowJ; rw [List.drop_eq_nil_of_le h]; rfl
/-- small lists, of small lists -/
structure GridIn (m : Grid) : Prop where
  len : m.length < 1000
  row : ∀ k, k < m.length → (nth m k).length < 1000
def pairP (x : Int × Int × Int) : PV := .tup [.agg [.int .i64 x.1, .int .i64 x.2.1], .int .i64 x.2.2]
set_option maxHeartbeats 4000000 in
theorem checkMap_c (m : Grid) (hm : GridIn m) : RealCall Tryd.prog 94 [aMap m] (pairP (mapS m)) true := by
  have hl := hm.len
  have hrow := hm.row
  clear hm
  unfold aMap mapS
  by_cases h0 : m.length = 0
  · rw [if_pos h0]
    unfold pairP
    have c1 := first2_c 10 0
    refine realcall_intro Tryd.func94 (by kernel_rfl) rfl (Nat.le_of_ble_eq_true (by kernel_rfl)) ?_
    simp only [Tryd.results94, Tryd.ntmps94]
    repeat' (first | (with_reducible first | refine awp_seq ?_ | refine awp_blockS ?_ | refine awp_blockC ?_ | refine awp_blockR ?_ | refine awp_skip ?_ | refine awp_ret ?_ | refine awp_exit ?_ | refine awp_region ?_ | refine awp_condM ?_ | refine And.intro ?_ ?_ | refine gE_splitN ?_ ?_ | refine gE_split ?_ ?_ | refine gQ_splitN ?_ ?_ | refine gQ_split ?_ ?_ | refine gM_splitN ?_ ?_ | refine gM_split ?_ ?_ | refine condM_splitDN ?_ ?_ | refine condM_splitD ?_ ?_ | refine condM_splitN ?_ ?_ | refine condM_split ?_ ?_ | refine condM_any ?_ ?_ | refine cw (unless_c _ _) ?_ | refine cw (c1) ?_ | intro _) | (simp [*, h0, firstS]))
    all_goals try omega
  · rw [if_neg h0]
    by_cases h1 : 12 < m.length
    · rw [if_pos h1]
      unfold pairP
      have c1 := first2_c 0 8
      have e1 : 0 < m.length := by omega
      have e2 : ¬ (m.length : Int) ≤ 12 := by omega
      refine realcall_intro Tryd.func94 (by kernel_rfl) rfl (Nat.le_of_ble_eq_true (by kernel_rfl)) ?_
      simp only [Tryd.results94, Tryd.ntmps94]
      repeat' (first | (with_reducible first | refine awp_seq ?_ | refine awp_blockS ?_ | refine awp_blockC ?_ | refine awp_blockR ?_ | refine awp_skip ?_ | refine awp_ret ?_ | refine awp_exit ?_ | refine awp_region ?_ | refine awp_condM ?_ | refine And.intro ?_ ?_ | refine gE_splitN ?_ ?_ | refine gE_split ?_ ?_ | refine gQ_splitN ?_ ?_ | refine gQ_split ?_ ?_ | refine gM_splitN ?_ ?_ | refine gM_split ?_ ?_ | refine condM_splitDN ?_ ?_ | refine condM_splitD ?_ ?_ | refine condM_splitN ?_ ?_ | refine condM_split ?_ ?_ | refine condM_any ?_ ?_ | refine cw (unless_c _ _) ?_ | refine cw (c1) ?_ | intro _) | (simp [*, h0, e1, e2, firstS]))
      all_goals try omega
    · rw [if_neg h1]
      have c1 := first2_c 0 0
      have e1 : 0 < m.length := by omega
      have e2 : (m.length : Int) ≤ 12 := by omega
      generalize hR : rowsS m.length m 0 = R
      have kR := keep hR
      clear hR
      refine realcall_intro Tryd.func94 (by kernel_rfl) rfl (Nat.le_of_ble_eq_true (by kernel_rfl)) ?_
      simp only [Tryd.results94, Tryd.ntmps94]
      repeat' (first | (with_reducible first | refine awp_seq ?_ | refine awp_blockS ?_ | refine awp_blockC ?_ | refine awp_blockR ?_ | refine awp_skip ?_ | refine awp_ret ?_ | refine awp_exit ?_ | refine awp_region ?_ | refine awp_condM ?_ | refine And.intro ?_ ?_ | refine gE_splitN ?_ ?_ | refine gE_split ?_ ?_ | refine gQ_splitN ?_ ?_ | refine gQ_split ?_ ?_ | refine gM_splitN ?_ ?_ | refine gM_split ?_ ?_ | refine condM_splitDN ?_ ?_ | refine condM_splitD ?_ ?_ | refine condM_splitN ?_ ?_ | refine condM_split ?_ ?_ | refine condM_any ?_ ?_ | refine cw (unless_c _ _) ?_ | refine cw (c1) ?_ | intro _) | (simp [*, h0, e1, e2, firstS]))
      all_goals try omega
      refine awp_for3 (fun (k : Nat) => k ≤ m.length ∧ rowsS m.length (m.drop k) k = R) [2, 4, 27, 28] (fun (k : Nat) => [(29, .w false false (.int .i64 k))]) [1, 0] (fun (k : Nat) => []) (fun (k : Nat) => m.length - k) (fun (_u : Unit) => R = (0, 0, 0)) [2] (fun (_u : Unit) => []) [1, 0] (fun (_u : Unit) => []) (0) ⟨Nat.zero_le _, kR⟩ (by simp) (by simp) (fun k hk => ?_) (fun _u hf => ?_)
      · obtain ⟨hk, hj⟩ := hk
        by_cases hlt : k < m.length
        · have hr1 := hrow k hlt
          clear hrow
          by_cases hb : (nth m k).length = m.length
          · rw [rowsS_in m k hlt hb] at hj
            have kj := keep hj
            clear hj
            repeat' (first | (with_reducible first | refine awp_seq ?_ | refine awp_blockS ?_ | refine awp_blockC ?_ | refine awp_blockR ?_ | refine awp_skip ?_ | refine awp_ret ?_ | refine awp_exit ?_ | refine awp_region ?_ | refine awp_condM ?_ | refine And.intro ?_ ?_ | refine gE_splitDN ?_ ?_ | refine gE_splitD ?_ ?_ | refine gQ_splitDN ?_ ?_ | refine gQ_splitD ?_ ?_ | refine gM_splitDN ?_ ?_ | refine gM_splitD ?_ ?_ | refine gE_splitN ?_ ?_ | refine gE_split ?_ ?_ | refine gQ_splitN ?_ ?_ | refine gQ_split ?_ ?_ | refine gM_splitN ?_ ?_ | refine gM_split ?_ ?_ | refine condM_splitDN ?_ ?_ | refine condM_splitD ?_ ?_ | refine condM_splitN ?_ ?_ | refine condM_split ?_ ?_ | refine condM_any ?_ ?_ | intro _) | (simp [*, hlt, hb]))
            all_goals try omega
            refine awp_for3 (fun (j : Nat) => j ≤ (nth m k).length ∧ rowJ m k j = R) [2, 4, 6, 27, 28, 29, 40, 41] (fun (j : Nat) => [(42, .w false false (.int .i64 j))]) [1, 0] (fun (j : Nat) => []) (fun (j : Nat) => (nth m k).length - j) (fun (_u : Unit) => rowsS m.length (m.drop (k + 1)) (k + 1) = R) [2, 4, 27, 28, 29] (fun (_u : Unit) => []) [1, 0] (fun (_u : Unit) => []) (0) ⟨Nat.zero_le _, kj⟩ (by simp) (by simp) (fun j hk => ?_) (fun _u hf => ?_)
            · obtain ⟨hj1, hj⟩ := hk
              by_cases hjl : j < (nth m k).length
              · have c2 := first2_c (errUnless (winB (nth (nth m k) j) 0 20000) 2) (errUnless (!(decide ((k : Int) = j)) || decide (nth (nth m k) j = 0)) 11)
                have hE : firstS [errUnless (winB (nth (nth m k) j) 0 20000) 2, errUnless (!(decide ((k : Int) = j)) || decide (nth (nth m k) j = 0)) 11] = cellE k j (nth (nth m k) j) := rfl
                rw [hE] at c2
                clear hE
                generalize hE : cellE k j (nth (nth m k) j) = E at c2
                have hJ : (E = 0 → rowJ m k (j + 1) = R) ∧ (E ≠ 0 → ((k : Int), (j : Int), E) = R) := ⟨fun h => by rw [← hj, rowJ_ok m k j hjl (hE.trans h)], fun h => by rw [← hj, rowJ_bad m k j hjl (by rw [hE]; exact h), hE]⟩
                clear hE hj
                have hd : k = j ∨ ¬ ((k : Int) = j) := by omega
                by_cases hc : E = 0
                · have kj2 := keep (hJ.1 hc)
                  clear hJ
                  subst hc
                  rcases hd with rfl | hd
                  · simp only [decide_true, Bool.not_true, Bool.false_or] at c2
                    repeat' (first | (with_reducible first | refine awp_seq ?_ | refine awp_blockS ?_ | refine awp_blockC ?_ | refine awp_blockR ?_ | refine awp_skip ?_ | refine awp_ret ?_ | refine awp_exit ?_ | refine awp_region ?_ | refine awp_condM ?_ | refine And.intro ?_ ?_ | refine gE_splitDN ?_ ?_ | refine gE_splitD ?_ ?_ | refine gQ_splitDN ?_ ?_ | refine gQ_splitD ?_ ?_ | refine gM_splitDN ?_ ?_ | refine gM_splitD ?_ ?_ | refine gE_splitN ?_ ?_ | refine gE_split ?_ ?_ | refine gQ_splitN ?_ ?_ | refine gQ_split ?_ ?_ | refine gM_splitN ?_ ?_ | refine gM_split ?_ ?_ | refine condM_splitDN ?_ ?_ | refine condM_splitD ?_ ?_ | refine condM_splitN ?_ ?_ | refine condM_split ?_ ?_ | refine condM_any ?_ ?_ | refine cw (within_c _ _ _) ?_ | refine cw (unless_c _ _) ?_ | refine cw (c2) ?_ | intro _) | (simp [*, hlt, hb, hjl]))
                    all_goals first
                      | exact inI64 (by omega) (by omega)
                      | omega
                      | (refine loopK_normal _ _ _ _ _ (k + 1) _ ?_ (by first | omega | (dsimp only; omega) | (simp; omega)) ?_; (· exact ⟨by omega, kj2⟩); (refine le_of ?_ ?_ <;> first | trivial | (simp [*]; done)))
                      | skip
                  · rw [decide_eq_false hd] at c2
                    simp only [Bool.not_false, Bool.true_or, eu_t] at c2
                    repeat' (first | (with_reducible first | refine awp_seq ?_ | refine awp_blockS ?_ | refine awp_blockC ?_ | refine awp_blockR ?_ | refine awp_skip ?_ | refine awp_ret ?_ | refine awp_exit ?_ | refine awp_region ?_ | refine awp_condM ?_ | refine And.intro ?_ ?_ | refine gE_splitDN ?_ ?_ | refine gE_splitD ?_ ?_ | refine gQ_splitDN ?_ ?_ | refine gQ_splitD ?_ ?_ | refine gM_splitDN ?_ ?_ | refine gM_splitD ?_ ?_ | refine gE_splitN ?_ ?_ | refine gE_split ?_ ?_ | refine gQ_splitN ?_ ?_ | refine gQ_split ?_ ?_ | refine gM_splitN ?_ ?_ | refine gM_split ?_ ?_ | refine condM_splitDN ?_ ?_ | refine condM_splitD ?_ ?_ | refine condM_splitN ?_ ?_ | refine condM_split ?_ ?_ | refine condM_any ?_ ?_ | refine cw (within_c _ _ _) ?_ | refine cw (unless_c _ _) ?_ | refine cw (c2) ?_ | intro _) | (simp [*, hlt, hb, hjl, hd]))
                    all_goals first
                      | exact inI64 (by omega) (by omega)
                      | omega
                      | (refine loopK_normal _ _ _ _ _ (j + 1) _ ?_ (by first | omega | (dsimp only; omega) | (simp; omega)) ?_; (· exact ⟨by omega, kj2⟩); (refine le_of ?_ ?_ <;> first | trivial | (simp [*]; done)))
                      | skip
                · have hj := hJ.2 hc
                  clear hJ
                  subst hj
                  unfold pairP
                  rcases hd with rfl | hd
                  · simp only [decide_true, Bool.not_true, Bool.false_or] at c2
                    repeat' (first | (with_reducible first | refine awp_seq ?_ | refine awp_blockS ?_ | refine awp_blockC ?_ | refine awp_blockR ?_ | refine awp_skip ?_ | refine awp_ret ?_ | refine awp_exit ?_ | refine awp_region ?_ | refine awp_condM ?_ | refine And.intro ?_ ?_ | refine gE_splitDN ?_ ?_ | refine gE_splitD ?_ ?_ | refine gQ_splitDN ?_ ?_ | refine gQ_splitD ?_ ?_ | refine gM_splitDN ?_ ?_ | refine gM_splitD ?_ ?_ | refine gE_splitN ?_ ?_ | refine gE_split ?_ ?_ | refine gQ_splitN ?_ ?_ | refine gQ_split ?_ ?_ | refine gM_splitN ?_ ?_ | refine gM_split ?_ ?_ | refine condM_splitDN ?_ ?_ | refine condM_splitD ?_ ?_ | refine condM_splitN ?_ ?_ | refine condM_split ?_ ?_ | refine condM_any ?_ ?_ | refine cw (within_c _ _ _) ?_ | refine cw (unless_c _ _) ?_ | refine cw (c2) ?_ | intro _) | (simp [*, hlt, hb, hjl, hc]))
                    all_goals first
                      | exact inI64 (by omega) (by omega)
                      | omega
                      | skip
                  · rw [decide_eq_false hd] at c2
                    simp only [Bool.not_false, Bool.true_or, eu_t] at c2
                    repeat' (first | (with_reducible first | refine awp_seq ?_ | refine awp_blockS ?_ | refine awp_blockC ?_ | refine awp_blockR ?_ | refine awp_skip ?_ | refine awp_ret ?_ | refine awp_exit ?_ | refine awp_region ?_ | refine awp_condM ?_ | refine And.intro ?_ ?_ | refine gE_splitDN ?_ ?_ | refine gE_splitD ?_ ?_ | refine gQ_splitDN ?_ ?_ | refine gQ_splitD ?_ ?_ | refine gM_splitDN ?_ ?_ | refine gM_splitD ?_ ?_ | refine gE_splitN ?_ ?_ | refine gE_split ?_ ?_ | refine gQ_splitN ?_ ?_ | refine gQ_split ?_ ?_ | refine gM_splitN ?_ ?_ | refine gM_split ?_ ?_ | refine condM_splitDN ?_ ?_ | refine condM_splitD ?_ ?_ | refine condM_splitN ?_ ?_ | refine condM_split ?_ ?_ | refine condM_any ?_ ?_ | refine cw (within_c _ _ _) ?_ | refine cw (unless_c _ _) ?_ | refine cw (c2) ?_ | intro _) | (simp [*, hlt, hb, hjl, hd, hc]))
                    all_goals first
                      | exact inI64 (by omega) (by omega)
                      | omega
                      | skip
              · rw [rowJ_end m k j (by omega)] at hj
                have kj2 := keep hj
                clear hj
                have hje : j = (nth m k).length := by omega
                subst hje
                repeat' (first | (with_reducible first | refine awp_seq ?_ | refine awp_blockS ?_ | refine awp_blockC ?_ | refine awp_blockR ?_ | refine awp_skip ?_ | refine awp_ret ?_ | refine awp_exit ?_ | refine awp_region ?_ | refine awp_condM ?_ | refine And.intro ?_ ?_ | refine gE_splitDN ?_ ?_ | refine gE_splitD ?_ ?_ | refine gQ_splitDN ?_ ?_ | refine gQ_splitD ?_ ?_ | refine gM_splitDN ?_ ?_ | refine gM_splitD ?_ ?_ | refine gE_splitN ?_ ?_ | refine gE_split ?_ ?_ | refine gQ_splitN ?_ ?_ | refine gQ_split ?_ ?_ | refine gM_splitN ?_ ?_ | refine gM_split ?_ ?_ | refine condM_splitDN ?_ ?_ | refine condM_splitD ?_ ?_ | refine condM_splitN ?_ ?_ | refine condM_split ?_ ?_ | refine condM_any ?_ ?_ | intro _) | (simp [*, hlt, hb]))
                all_goals first
                  | (refine finW_intro () ?_ ?_; (· exact kj2); (refine le_of ?_ ?_ <;> first | trivial | (simp [*]; done)))
                  | skip
            · have kf := keep hf
              clear hf
              repeat' (first | (with_reducible first | refine awp_seq ?_ | refine awp_blockS ?_ | refine awp_blockC ?_ | refine awp_blockR ?_ | refine awp_skip ?_ | refine awp_ret ?_ | refine awp_exit ?_ | refine awp_region ?_ | refine awp_condM ?_ | refine And.intro ?_ ?_ | refine gE_splitDN ?_ ?_ | refine gE_splitD ?_ ?_ | refine gQ_splitDN ?_ ?_ | refine gQ_splitD ?_ ?_ | refine gM_splitDN ?_ ?_ | refine gM_splitD ?_ ?_ | refine gE_splitN ?_ ?_ | refine gE_split ?_ ?_ | refine gQ_splitN ?_ ?_ | refine gQ_split ?_ ?_ | refine gM_splitN ?_ ?_ | refine gM_split ?_ ?_ | refine condM_splitDN ?_ ?_ | refine condM_splitD ?_ ?_ | refine condM_splitN ?_ ?_ | refine condM_split ?_ ?_ | refine condM_any ?_ ?_ | intro _) | (simp [*, hlt, hb]))
              all_goals first
                | exact inI64 (by omega) (by omega)
                | omega
                | (refine loopK_normal _ _ _ _ _ (k + 1) _ ?_ (by first | omega | (dsimp only; omega) | (simp; omega)) ?_; (· exact ⟨by omega, kf⟩); (refine le_of ?_ ?_ <;> first | trivial | (simp [*]; done)))
                | skip
          · rw [rowsS_bad m k hlt hb] at hj
            subst hj
            unfold pairP
            have hb' : ¬ ((nth m k).length : Int) = (m.length : Int) := by omega
            repeat' (first | (with_reducible first | refine awp_seq ?_ | refine awp_blockS ?_ | refine awp_blockC ?_ | refine awp_blockR ?_ | refine awp_skip ?_ | refine awp_ret ?_ | refine awp_exit ?_ | refine awp_region ?_ | refine awp_condM ?_ | refine And.intro ?_ ?_ | refine gE_splitDN ?_ ?_ | refine gE_splitD ?_ ?_ | refine gQ_splitDN ?_ ?_ | refine gQ_splitD ?_ ?_ | refine gM_splitDN ?_ ?_ | refine gM_splitD ?_ ?_ | refine gE_splitN ?_ ?_ | refine gE_split ?_ ?_ | refine gQ_splitN ?_ ?_ | refine gQ_split ?_ ?_ | refine gM_splitN ?_ ?_ | refine gM_split ?_ ?_ | refine condM_splitDN ?_ ?_ | refine condM_splitD ?_ ?_ | refine condM_splitN ?_ ?_ | refine condM_split ?_ ?_ | refine condM_any ?_ ?_ | intro _) | (simp [*, hlt, hb, hb']))
            all_goals first
              | exact inI64 (by omega) (by omega)
              | omega
              | skip
        · rw [rowsS_end m k (by omega)] at hj
          have kj := keep hj
          clear hj
          have hke : k = m.length := by omega
          subst hke
          repeat' (first | (with_reducible first | refine awp_seq ?_ | refine awp_blockS ?_ | refine awp_blockC ?_ | refine awp_blockR ?_ | refine awp_skip ?_ | refine awp_ret ?_ | refine awp_exit ?_ | refine awp_region ?_ | refine awp_condM ?_ | refine And.intro ?_ ?_ | refine gE_splitDN ?_ ?_ | refine gE_splitD ?_ ?_ | refine gQ_splitDN ?_ ?_ | refine gQ_splitD ?_ ?_ | refine gM_splitDN ?_ ?_ | refine gM_splitD ?_ ?_ | refine gE_splitN ?_ ?_ | refine gE_split ?_ ?_ | refine gQ_splitN ?_ ?_ | refine gQ_split ?_ ?_ | refine gM_splitN ?_ ?_ | refine gM_split ?_ ?_ | refine condM_splitDN ?_ ?_ | refine condM_splitD ?_ ?_ | refine condM_splitN ?_ ?_ | refine condM_split ?_ ?_ | refine condM_any ?_ ?_ | intro _) | (simp [*]))
          all_goals first
            | (refine finW_intro () ?_ ?_; (· exact kj.symm); (refine le_of ?_ ?_ <;> first | trivial | (simp [*]; done)))
            | skip
      · subst hf
        unfold pairP
        repeat' (first | (with_reducible first | refine awp_seq ?_ | refine awp_blockS ?_ | refine awp_blockC ?_ | refine awp_blockR ?_ | refine awp_skip ?_ | refine awp_ret ?_ | refine awp_exit ?_ | refine awp_region ?_ | refine awp_condM ?_ | refine And.intro ?_ ?_ | refine gE_splitDN ?_ ?_ | refine gE_splitD ?_ ?_ | refine gQ_splitDN ?_ ?_ | refine gQ_splitD ?_ ?_ | refine gM_splitDN ?_ ?_ | refine gM_splitD ?_ ?_ | refine gE_splitN ?_ ?_ | refine gE_split ?_ ?_ | refine gQ_splitN ?_ ?_ | refine gQ_split ?_ ?_ | refine gM_splitN ?_ ?_ | refine gM_split ?_ ?_ | refine condM_splitDN ?_ ?_ | refine condM_splitD ?_ ?_ | refine condM_splitN ?_ ?_ | refine condM_split ?_ ?_ | refine condM_any ?_ ?_ | intro _) | (simp [*]))
end Go.Proofs.YtiialcomflggcaaDoor
namespace Go.Proofs.YtiialcomflggcaaDoor
open Go Go.Fi

theorem cellE_eq (i j : Nat) (t : Int) : cellE i j t = if winB t 0 20000 = true then (if (i : Int) = j ∧ ¬ t = 0 then 11 else 0) else 2 := by
  unfold cellE
  cases winB t 0 20000 with
  | false => rfl
  | true =>
    by_cases h1 : (i : Int) = j <;> by_cases h2 : t = 0 <;> simp [firstS, h1, h2]
set_option maxHeartbeats 4000000 in
theorem rCheckMap_c (m : Grid) (hm : GridIn m) : RealCall Tryd.prog 71 [aMap m] (pairP (mapS m)) true := by
  have hl := hm.len
  have hrow := hm.row
  clear hm
  unfold aMap mapS
  by_cases h0 : m.length = 0
  · rw [if_pos h0]
    unfold pairP
    refine realcall_intro Tryd.func71 (by kernel_rfl) rfl (Nat.le_of_ble_eq_true (by kernel_rfl)) ?_
    simp only [Tryd.results71, Tryd.ntmps71]
    repeat' (first | (with_reducible first | refine awp_seq ?_ | refine awp_blockS ?_ | refine awp_blockC ?_ | refine awp_blockR ?_ | refine awp_skip ?_ | refine awp_ret ?_ | refine awp_exit ?_ | refine awp_region ?_ | refine awp_condM ?_ | refine And.intro ?_ ?_ | refine gE_splitN ?_ ?_ | refine gE_split ?_ ?_ | refine gQ_splitN ?_ ?_ | refine gQ_split ?_ ?_ | refine gM_splitN ?_ ?_ | refine gM_split ?_ ?_ | refine condM_splitDN ?_ ?_ | refine condM_splitD ?_ ?_ | refine condM_splitN ?_ ?_ | refine condM_split ?_ ?_ | refine condM_any ?_ ?_ | intro _) | (simp [*, h0]))
    all_goals try omega
  · rw [if_neg h0]
    by_cases h1 : 12 < m.length
    · rw [if_pos h1]
      unfold pairP
      have e2 : (12 : Int) < (m.length : Int) := by omega
      refine realcall_intro Tryd.func71 (by kernel_rfl) rfl (Nat.le_of_ble_eq_true (by kernel_rfl)) ?_
      simp only [Tryd.results71, Tryd.ntmps71]
      repeat' (first | (with_reducible first | refine awp_seq ?_ | refine awp_blockS ?_ | refine awp_blockC ?_ | refine awp_blockR ?_ | refine awp_skip ?_ | refine awp_ret ?_ | refine awp_exit ?_ | refine awp_region ?_ | refine awp_condM ?_ | refine And.intro ?_ ?_ | refine gE_splitN ?_ ?_ | refine gE_split ?_ ?_ | refine gQ_splitN ?_ ?_ | refine gQ_split ?_ ?_ | refine gM_splitN ?_ ?_ | refine gM_split ?_ ?_ | refine condM_splitDN ?_ ?_ | refine condM_splitD ?_ ?_ | refine condM_splitN ?_ ?_ | refine condM_split ?_ ?_ | refine condM_any ?_ ?_ | intro _) | (simp [*, h0, e2]))
      all_goals try omega
    · rw [if_neg h1]
      have e2 : ¬ (12 : Int) < (m.length : Int) := by omega
      generalize hR : rowsS m.length m 0 = R
      have kR := keep hR
      clear hR
      refine realcall_intro Tryd.func71 (by kernel_rfl) rfl (Nat.le_of_ble_eq_true (by kernel_rfl)) ?_
      simp only [Tryd.results71, Tryd.ntmps71]
      repeat' (first | (with_reducible first | refine awp_seq ?_ | refine awp_blockS ?_ | refine awp_blockC ?_ | refine awp_blockR ?_ | refine awp_skip ?_ | refine awp_ret ?_ | refine awp_exit ?_ | refine awp_region ?_ | refine awp_condM ?_ | refine And.intro ?_ ?_ | refine gE_splitN ?_ ?_ | refine gE_split ?_ ?_ | refine gQ_splitN ?_ ?_ | refine gQ_split ?_ ?_ | refine gM_splitN ?_ ?_ | refine gM_split ?_ ?_ | refine condM_splitDN ?_ ?_ | refine condM_splitD ?_ ?_ | refine condM_splitN ?_ ?_ | refine condM_split ?_ ?_ | refine condM_any ?_ ?_ | intro _) | (simp [*, h0, e2]))
      all_goals try omega
      refine awp_for3 (fun (k : Nat) => k ≤ m.length ∧ rowsS m.length (m.drop k) k = R) [1, 2, 4] (fun (k : Nat) => [(5, .w false false (.int .i64 k))]) [1, 0] (fun (k : Nat) => []) (fun (k : Nat) => m.length - k) (fun (_u : Unit) => R = (0, 0, 0)) [2] (fun (_u : Unit) => []) [1, 0] (fun (_u : Unit) => []) (0) ⟨Nat.zero_le _, kR⟩ (by simp) (by simp) (fun k hk => ?_) (fun _u hf => ?_)
      · obtain ⟨hk, hj⟩ := hk
        by_cases hlt : k < m.length
        · have hr1 := hrow k hlt
          clear hrow
          by_cases hb : (nth m k).length = m.length
          · rw [rowsS_in m k hlt hb] at hj
            have kj := keep hj
            clear hj
            repeat' (first | (with_reducible first | refine awp_seq ?_ | refine awp_blockS ?_ | refine awp_blockC ?_ | refine awp_blockR ?_ | refine awp_skip ?_ | refine awp_ret ?_ | refine awp_exit ?_ | refine awp_region ?_ | refine awp_condM ?_ | refine And.intro ?_ ?_ | refine gE_splitDN ?_ ?_ | refine gE_splitD ?_ ?_ | refine gQ_splitDN ?_ ?_ | refine gQ_splitD ?_ ?_ | refine gM_splitDN ?_ ?_ | refine gM_splitD ?_ ?_ | refine gE_splitN ?_ ?_ | refine gE_split ?_ ?_ | refine gQ_splitN ?_ ?_ | refine gQ_split ?_ ?_ | refine gM_splitN ?_ ?_ | refine gM_split ?_ ?_ | refine condM_splitDN ?_ ?_ | refine condM_splitD ?_ ?_ | refine condM_splitN ?_ ?_ | refine condM_split ?_ ?_ | refine condM_any ?_ ?_ | intro _) | (simp [*, hlt, hb]))
            all_goals try omega
            refine awp_for3 (fun (j : Nat) => j ≤ (nth m k).length ∧ rowJ m k j = R) [1, 2, 4, 5] (fun (j : Nat) => [(6, .w false false (.int .i64 j))]) [1, 0] (fun (j : Nat) => []) (fun (j : Nat) => (nth m k).length - j) (fun (_u : Unit) => rowsS m.length (m.drop (k + 1)) (k + 1) = R) [1, 2, 4, 5] (fun (_u : Unit) => []) [1, 0] (fun (_u : Unit) => []) (0) ⟨Nat.zero_le _, kj⟩ (by simp) (by simp) (fun j hk => ?_) (fun _u hf => ?_)
            · obtain ⟨hj1, hj⟩ := hk
              by_cases hjl : j < (nth m k).length
              · have hE := cellE_eq k j (nth (nth m k) j)
                have hJ : (cellE k j (nth (nth m k) j) = 0 → rowJ m k (j + 1) = R) ∧ (cellE k j (nth (nth m k) j) ≠ 0 → ((k : Int), (j : Int), cellE k j (nth (nth m k) j)) = R) := ⟨fun h => by rw [← hj, rowJ_ok m k j hjl h], fun h => by rw [← hj, rowJ_bad m k j hjl h]⟩
                clear hj
                have hjm : j < m.length := by omega
                cases hw : winB (nth (nth m k) j) 0 20000 with
                | false =>
                  rw [hw, if_neg (by simp)] at hE
                  rw [hE] at hJ
                  have hj := hJ.2 (by decide)
                  clear hJ hE
                  have cw1 := rWithin_c (nth (nth m k) j) 0 20000
                  rw [hw] at cw1
                  clear hw
                  subst hj
                  unfold pairP
                  repeat' (first | (with_reducible first | refine awp_seq ?_ | refine awp_blockS ?_ | refine awp_blockC ?_ | refine awp_blockR ?_ | refine awp_skip ?_ | refine awp_ret ?_ | refine awp_exit ?_ | refine awp_region ?_ | refine awp_condM ?_ | refine And.intro ?_ ?_ | refine gE_splitDN ?_ ?_ | refine gE_splitD ?_ ?_ | refine gQ_splitDN ?_ ?_ | refine gQ_splitD ?_ ?_ | refine gM_splitDN ?_ ?_ | refine gM_splitD ?_ ?_ | refine gE_splitN ?_ ?_ | refine gE_split ?_ ?_ | refine gQ_splitN ?_ ?_ | refine gQ_split ?_ ?_ | refine gM_splitN ?_ ?_ | refine gM_split ?_ ?_ | refine condM_splitDN ?_ ?_ | refine condM_splitD ?_ ?_ | refine condM_splitN ?_ ?_ | refine condM_split ?_ ?_ | refine condM_any ?_ ?_ | refine cw (cw1) ?_ | intro _) | (simp [*, hlt, hb, hjl, hjm]))
                  all_goals first
                    | exact inI64 (by omega) (by omega)
                    | omega
                    | skip
                | true =>
                  rw [hw, if_pos rfl] at hE
                  have cw1 := rWithin_c (nth (nth m k) j) 0 20000
                  rw [hw] at cw1
                  clear hw
                  have hd : k = j ∨ ¬ ((k : Int) = j) := by omega
                  rcases hd with rfl | hd
                  · by_cases hz : nth (nth m k) k = 0
                    · rw [if_neg (by simp [hz])] at hE
                      rw [hz] at cw1
                      have kj2 := keep (hJ.1 hE)
                      clear hJ hE
                      repeat' (first | (with_reducible first | refine awp_seq ?_ | refine awp_blockS ?_ | refine awp_blockC ?_ | refine awp_blockR ?_ | refine awp_skip ?_ | refine awp_ret ?_ | refine awp_exit ?_ | refine awp_region ?_ | refine awp_condM ?_ | refine And.intro ?_ ?_ | refine gE_splitDN ?_ ?_ | refine gE_splitD ?_ ?_ | refine gQ_splitDN ?_ ?_ | refine gQ_splitD ?_ ?_ | refine gM_splitDN ?_ ?_ | refine gM_splitD ?_ ?_ | refine gE_splitN ?_ ?_ | refine gE_split ?_ ?_ | refine gQ_splitN ?_ ?_ | refine gQ_split ?_ ?_ | refine gM_splitN ?_ ?_ | refine gM_split ?_ ?_ | refine condM_splitDN ?_ ?_ | refine condM_splitD ?_ ?_ | refine condM_splitN ?_ ?_ | refine condM_split ?_ ?_ | refine condM_any ?_ ?_ | refine cw (cw1) ?_ | intro _) | (simp [*, hlt, hb, hjl, hjm, hz]))
                      all_goals first
                        | exact inI64 (by omega) (by omega)
                        | omega
                        | (refine loopK_normal _ _ _ _ _ (k + 1) _ ?_ (by first | omega | (dsimp only; omega) | (simp; omega)) ?_; (· exact ⟨by omega, kj2⟩); (refine le_of ?_ ?_ <;> first | trivial | (simp [*]; done)))
                        | skip
                    · rw [if_pos ⟨rfl, hz⟩] at hE
                      rw [hE] at hJ
                      have hj := hJ.2 (by decide)
                      clear hJ hE
                      subst hj
                      unfold pairP
                      repeat' (first | (with_reducible first | refine awp_seq ?_ | refine awp_blockS ?_ | refine awp_blockC ?_ | refine awp_blockR ?_ | refine awp_skip ?_ | refine awp_ret ?_ | refine awp_exit ?_ | refine awp_region ?_ | refine awp_condM ?_ | refine And.intro ?_ ?_ | refine gE_splitDN ?_ ?_ | refine gE_splitD ?_ ?_ | refine gQ_splitDN ?_ ?_ | refine gQ_splitD ?_ ?_ | refine gM_splitDN ?_ ?_ | refine gM_splitD ?_ ?_ | refine gE_splitN ?_ ?_ | refine gE_split ?_ ?_ | refine gQ_splitN ?_ ?_ | refine gQ_split ?_ ?_ | refine gM_splitN ?_ ?_ | refine gM_split ?_ ?_ | refine condM_splitDN ?_ ?_ | refine condM_splitD ?_ ?_ | refine condM_splitN ?_ ?_ | refine condM_split ?_ ?_ | refine condM_any ?_ ?_ | refine cw (cw1) ?_ | intro _) | (simp [*, hlt, hb, hjl, hjm, hz]))
                      all_goals first
                        | exact inI64 (by omega) (by omega)
                        | omega
                        | skip
                  · rw [if_neg (fun h => hd h.1)] at hE
                    have kj2 := keep (hJ.1 hE)
                    clear hJ hE
                    repeat' (first | (with_reducible first | refine awp_seq ?_ | refine awp_blockS ?_ | refine awp_blockC ?_ | refine awp_blockR ?_ | refine awp_skip ?_ | refine awp_ret ?_ | refine awp_exit ?_ | refine awp_region ?_ | refine awp_condM ?_ | refine And.intro ?_ ?_ | refine gE_splitDN ?_ ?_ | refine gE_splitD ?_ ?_ | refine gQ_splitDN ?_ ?_ | refine gQ_splitD ?_ ?_ | refine gM_splitDN ?_ ?_ | refine gM_splitD ?_ ?_ | refine gE_splitN ?_ ?_ | refine gE_split ?_ ?_ | refine gQ_splitN ?_ ?_ | refine gQ_split ?_ ?_ | refine gM_splitN ?_ ?_ | refine gM_split ?_ ?_ | refine condM_splitDN ?_ ?_ | refine condM_splitD ?_ ?_ | refine condM_splitN ?_ ?_ | refine condM_split ?_ ?_ | refine condM_any ?_ ?_ | refine cw (cw1) ?_ | intro _) | (simp [*, hlt, hb, hjl, hjm, hd]))
                    all_goals first
                      | exact inI64 (by omega) (by omega)
                      | omega
                      | (refine loopK_normal _ _ _ _ _ (j + 1) _ ?_ (by first | omega | (dsimp only; omega) | (simp; omega)) ?_; (· exact ⟨by omega, kj2⟩); (refine le_of ?_ ?_ <;> first | trivial | (simp [*]; done)))
                      | skip
              · rw [rowJ_end m k j (by omega)] at hj
                have kj2 := keep hj
                clear hj
                have hje : j = (nth m k).length := by omega
                subst hje
                repeat' (first | (with_reducible first | refine awp_seq ?_ | refine awp_blockS ?_ | refine awp_blockC ?_ | refine awp_blockR ?_ | refine awp_skip ?_ | refine awp_ret ?_ | refine awp_exit ?_ | refine awp_region ?_ | refine awp_condM ?_ | refine And.intro ?_ ?_ | refine gE_splitDN ?_ ?_ | refine gE_splitD ?_ ?_ | refine gQ_splitDN ?_ ?_ | refine gQ_splitD ?_ ?_ | refine gM_splitDN ?_ ?_ | refine gM_splitD ?_ ?_ | refine gE_splitN ?_ ?_ | refine gE_split ?_ ?_ | refine gQ_splitN ?_ ?_ | refine gQ_split ?_ ?_ | refine gM_splitN ?_ ?_ | refine gM_split ?_ ?_ | refine condM_splitDN ?_ ?_ | refine condM_splitD ?_ ?_ | refine condM_splitN ?_ ?_ | refine condM_split ?_ ?_ | refine condM_any ?_ ?_ | intro _) | (simp [*, hlt, hb]))
                all_goals first
                  | (refine finW_intro () ?_ ?_; (· exact kj2); (refine le_of ?_ ?_ <;> first | trivial | (simp [*]; done)))
                  | omega
                  | skip
            · have kf := keep hf
              clear hf
              repeat' (first | (with_reducible first | refine awp_seq ?_ | refine awp_blockS ?_ | refine awp_blockC ?_ | refine awp_blockR ?_ | refine awp_skip ?_ | refine awp_ret ?_ | refine awp_exit ?_ | refine awp_region ?_ | refine awp_condM ?_ | refine And.intro ?_ ?_ | refine gE_splitDN ?_ ?_ | refine gE_splitD ?_ ?_ | refine gQ_splitDN ?_ ?_ | refine gQ_splitD ?_ ?_ | refine gM_splitDN ?_ ?_ | refine gM_splitD ?_ ?_ | refine gE_splitN ?_ ?_ | refine gE_split ?_ ?_ | refine gQ_splitN ?_ ?_ | refine gQ_split ?_ ?_ | refine gM_splitN ?_ ?_ | refine gM_split ?_ ?_ | refine condM_splitDN ?_ ?_ | refine condM_splitD ?_ ?_ | refine condM_splitN ?_ ?_ | refine condM_split ?_ ?_ | refine condM_any ?_ ?_ | intro _) | (simp [*, hlt, hb]))
              all_goals first
                | exact inI64 (by omega) (by omega)
                | omega
                | (refine loopK_normal _ _ _ _ _ (k + 1) _ ?_ (by first | omega | (dsimp only; omega) | (simp; omega)) ?_; (· exact ⟨by omega, kf⟩); (refine le_of ?_ ?_ <;> first | trivial | (simp [*]; done)))
                | skip
          · rw [rowsS_bad m k hlt hb] at hj
            subst hj
            unfold pairP
            have hb' : ¬ ((nth m k).length : Int) = (m.length : Int) := by omega
            repeat' (first | (with_reducible first | refine awp_seq ?_ | refine awp_blockS ?_ | refine awp_blockC ?_ | refine awp_blockR ?_ | refine awp_skip ?_ | refine awp_ret ?_ | refine awp_exit ?_ | refine awp_region ?_ | refine awp_condM ?_ | refine And.intro ?_ ?_ | refine gE_splitDN ?_ ?_ | refine gE_splitD ?_ ?_ | refine gQ_splitDN ?_ ?_ | refine gQ_splitD ?_ ?_ | refine gM_splitDN ?_ ?_ | refine gM_splitD ?_ ?_ | refine gE_splitN ?_ ?_ | refine gE_split ?_ ?_ | refine gQ_splitN ?_ ?_ | refine gQ_split ?_ ?_ | refine gM_splitN ?_ ?_ | refine gM_split ?_ ?_ | refine condM_splitDN ?_ ?_ | refine condM_splitD ?_ ?_ | refine condM_splitN ?_ ?_ | refine condM_split ?_ ?_ | refine condM_any ?_ ?_ | intro _) | (simp [*, hlt, hb, hb']))
            all_goals first
              | exact inI64 (by omega) (by omega)
              | omega
              | skip
        · rw [rowsS_end m k (by omega)] at hj
          have kj := keep hj
          clear hj
          have hke : k = m.length := by omega
          subst hke
          repeat' (first | (with_reducible first | refine awp_seq ?_ | refine awp_blockS ?_ | refine awp_blockC ?_ | refine awp_blockR ?_ | refine awp_skip ?_ | refine awp_ret ?_ | refine awp_exit ?_ | refine awp_region ?_ | refine awp_condM ?_ | refine And.intro ?_ ?_ | refine gE_splitDN ?_ ?_ | refine gE_splitD ?_ ?_ | refine gQ_splitDN ?_ ?_ | refine gQ_splitD ?_ ?_ | refine gM_splitDN ?_ ?_ | refine gM_splitD ?_ ?_ | refine gE_splitN ?_ ?_ | refine gE_split ?_ ?_ | refine gQ_splitN ?_ ?_ | refine gQ_split ?_ ?_ | refine gM_splitN ?_ ?_ | refine gM_split ?_ ?_ | refine condM_splitDN ?_ ?_ | refine condM_splitD ?_ ?_ | refine condM_splitN ?_ ?_ | refine condM_split ?_ ?_ | refine condM_any ?_ ?_ | intro _) | (simp [*]))
          all_goals first
            | (refine finW_intro () ?_ ?_; (· exact kj.symm); (refine le_of ?_ ?_ <;> first | trivial | (simp [*]; done)))
            | skip
      · subst hf
        unfold pairP
        repeat' (first | (with_reducible first | refine awp_seq ?_ | refine awp_blockS ?_ | refine awp_blockC ?_ | refine awp_blockR ?_ | refine awp_skip ?_ | refine awp_ret ?_ | refine awp_exit ?_ | refine awp_region ?_ | refine awp_condM ?_ | refine And.intro ?_ ?_ | refine gE_splitDN ?_ ?_ | refine gE_splitD ?_ ?_ | refine gQ_splitDN ?_ ?_ | refine gQ_splitD ?_ ?_ | refine gM_splitDN ?_ ?_ | refine gM_splitD ?_ ?_ | refine gE_splitN ?_ ?_ | refine gE_split ?_ ?_ | refine gQ_splitN ?_ ?_ | refine gQ_split ?_ ?_ | refine gM_splitN ?_ ?_ | refine gM_split ?_ ?_ | refine condM_splitDN ?_ ?_ | refine condM_splitD ?_ ?_ | refine condM_splitN ?_ ?_ | refine condM_split ?_ ?_ | refine condM_any ?_ ?_ | intro _) | (simp [*]))
theorem mapErr_c (m : Grid) (hm : GridIn m) : RealCall Tryd.prog 84 [aMap m] (.int .i64 (mapS m).2.2) true := by
  have hc := checkMap_c m hm
  unfold aMap pairP at *
  refine realcall_intro Tryd.func84 (by kernel_rfl) rfl (Nat.le_of_ble_eq_true (by kernel_rfl)) ?_
  simp only [Tryd.results84, Tryd.ntmps84]
  repeat' (first | (with_reducible first | refine awp_seq ?_ | refine awp_blockS ?_ | refine awp_blockC ?_ | refine awp_blockR ?_ | refine awp_skip ?_ | refine awp_ret ?_ | refine awp_exit ?_ | refine awp_region ?_ | refine awp_condM ?_ | refine And.intro ?_ ?_ | refine gE_splitN ?_ ?_ | refine gE_split ?_ ?_ | refine gQ_splitN ?_ ?_ | refine gQ_split ?_ ?_ | refine gM_splitN ?_ ?_ | refine gM_split ?_ ?_ | refine condM_splitDN ?_ ?_ | refine condM_splitD ?_ ?_ | refine condM_splitN ?_ ?_ | refine condM_split ?_ ?_ | refine condM_any ?_ ?_ | refine cw (hc) ?_ | intro _) | (simp [*]))
theorem rMapErr_c (m : Grid) (hm : GridIn m) : RealCall Tryd.prog 55 [aMap m] (.int .i64 (mapS m).2.2) true := by
  have hc := rCheckMap_c m hm
  unfold aMap pairP at *
  refine realcall_intro Tryd.func55 (by kernel_rfl) rfl (Nat.le_of_ble_eq_true (by kernel_rfl)) ?_
  simp only [Tryd.results55, Tryd.ntmps55]
  repeat' (first | (with_reducible first | refine awp_seq ?_ | refine awp_blockS ?_ | refine awp_blockC ?_ | refine awp_blockR ?_ | refine awp_skip ?_ | refine awp_ret ?_ | refine awp_exit ?_ | refine awp_region ?_ | refine awp_condM ?_ | refine And.intro ?_ ?_ | refine gE_splitN ?_ ?_ | refine gE_split ?_ ?_ | refine gQ_splitN ?_ ?_ | refine gQ_split ?_ ?_ | refine gM_splitN ?_ ?_ | refine gM_split ?_ ?_ | refine condM_splitDN ?_ ?_ | refine condM_splitD ?_ ?_ | refine condM_splitN ?_ ?_ | refine condM_split ?_ ?_ | refine condM_any ?_ ?_ | refine cw (hc) ?_ | intro _) | (simp [*]))

/-! ### copies -/
@[simp] theorem ints_flat : ∀ l : List Int, flatL (ints l) = true
  | [] => rfl
  | x :: r => by have := ints_flat r; simpa [ints, flatL, flat] using this
@[simp] theorem ints_one (l : List Int) : (ints l).all oneP = true := by simp [ints, oneP]
theorem take_succ_nth {α : Type} [Inhabited α] (l : List α) (k : Nat) (h : k < l.length) : l.take (k + 1) = l.take k ++ [nth l k] := by
  rw [List.take_succ_eq_append_getElem h]; simp [nth, List.getD_eq_getElem?_getD, List.getElem?_eq_getElem h]
def rowsA (m : Grid) (k : Nat) : List AV := (cRows (m.take k)).map (.w true false)
@[simp] theorem rowsA_zero (m : Grid) : rowsA m 0 = [] := rfl
@[simp] theorem rowsA_lt (m : Grid) (k n : Nat) : AV.lt.ltL n (rowsA m k) = true := ltL_map n true false _
@[simp] theorem rowsA_self {D : List Nat} {h : Heap} {n n' : Nat} (m : Grid) (k : Nat) : cellsLe D h n n' (rowsA m k) (rowsA m k) = True := eq_true (cellsLe_w true false _)
end Go.Proofs.YtiialcomflggcaaDoor

