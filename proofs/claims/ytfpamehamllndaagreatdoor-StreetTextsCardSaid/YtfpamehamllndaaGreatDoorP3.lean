/- Contracts of functions for this claim: lemmas alone. -/
import Derived.Test.YtfpamehamllndaaGreatDoorP1
set_option linter.unusedSimpArgs false
set_option linter.unusedVariables false
namespace Go.Proofs.YtfpamehamllndaaGreatDoor
open Go Go.Fi

def winB (n lo hi : Int) : Bool := decide (lo ≤ n) && decide (n ≤ hi)
theorem within_c (n lo hi : Int) : RealCall Tryz.prog 63 [.int .i64 n, .int .i64 lo, .int .i64 hi] (.bool (winB n lo hi)) true := by
  refine realcall_intro Tryz.func63 (by kernel_rfl) rfl (Nat.le_of_ble_eq_true (by kernel_rfl)) ?_
  simp only [Tryz.results63, Tryz.ntmps63]
  repeat' (first | (with_reducible first | refine awp_seq ?_ | refine awp_blockS ?_ | refine awp_blockC ?_ | refine awp_blockR ?_ | refine awp_skip ?_ | refine awp_ret ?_ | refine awp_exit ?_ | refine awp_region ?_ | refine awp_condM ?_ | refine And.intro ?_ ?_ | refine gE_splitN ?_ ?_ | refine gE_split ?_ ?_ | refine gQ_splitN ?_ ?_ | refine gQ_split ?_ ?_ | refine gM_splitN ?_ ?_ | refine gM_split ?_ ?_ | refine condM_splitDN ?_ ?_ | refine condM_splitD ?_ ?_ | refine condM_splitN ?_ ?_ | refine condM_split ?_ ?_ | refine condM_any ?_ ?_ | intro _) | (simp [*, winB]))
theorem rWithin_c (n lo hi : Int) : RealCall Tryz.prog 88 [.int .i64 n, .int .i64 lo, .int .i64 hi] (.bool (winB n lo hi)) true := by
  refine realcall_intro Tryz.func88 (by kernel_rfl) rfl (Nat.le_of_ble_eq_true (by kernel_rfl)) ?_
  simp only [Tryz.results88, Tryz.ntmps88]
  repeat' (first | (with_reducible first | refine awp_seq ?_ | refine awp_blockS ?_ | refine awp_blockC ?_ | refine awp_blockR ?_ | refine awp_skip ?_ | refine awp_ret ?_ | refine awp_exit ?_ | refine awp_region ?_ | refine awp_condM ?_ | refine And.intro ?_ ?_ | refine gE_splitN ?_ ?_ | refine gE_split ?_ ?_ | refine gQ_splitN ?_ ?_ | refine gQ_split ?_ ?_ | refine gM_splitN ?_ ?_ | refine gM_split ?_ ?_ | refine condM_splitDN ?_ ?_ | refine condM_splitD ?_ ?_ | refine condM_splitN ?_ ?_ | refine condM_split ?_ ?_ | refine condM_any ?_ ?_ | intro _) | (simp [*, winB]))
theorem timeErr_c (t : Int) : RealCall Tryz.prog 36 [.int .i64 t] (.int .i64 (errUnless (winB t 0 604800) 2)) true := by
  refine realcall_intro Tryz.func36 (by kernel_rfl) rfl (Nat.le_of_ble_eq_true (by kernel_rfl)) ?_
  simp only [Tryz.results36, Tryz.ntmps36]
  repeat' (first | (with_reducible first | refine awp_seq ?_ | refine awp_blockS ?_ | refine awp_blockC ?_ | refine awp_blockR ?_ | refine awp_skip ?_ | refine awp_ret ?_ | refine awp_exit ?_ | refine awp_region ?_ | refine awp_condM ?_ | refine And.intro ?_ ?_ | refine gE_splitN ?_ ?_ | refine gE_split ?_ ?_ | refine gQ_splitN ?_ ?_ | refine gQ_split ?_ ?_ | refine gM_splitN ?_ ?_ | refine gM_split ?_ ?_ | refine condM_splitDN ?_ ?_ | refine condM_splitD ?_ ?_ | refine condM_splitN ?_ ?_ | refine condM_split ?_ ?_ | refine condM_any ?_ ?_ | refine cw (within_c _ _ _) ?_ | refine cw (unless_c _ _) ?_ | intro _) | (simp [*]))
def aNet (n : Net) : PV := .agg (cNet n)
theorem placeErr_c (n : Net) (i : Int) (h : n.places.length < 1000) : RealCall Tryz.prog 42 [aNet n, .int .i64 i] (.int .i64 (errUnless (winB i 0 (n.places.length - 1)) 6)) true := by
  unfold aNet cNet
  refine realcall_intro Tryz.func42 (by kernel_rfl) rfl (Nat.le_of_ble_eq_true (by kernel_rfl)) ?_
  simp only [Tryz.results42, Tryz.ntmps42]
  repeat' (first | (with_reducible first | refine awp_seq ?_ | refine awp_blockS ?_ | refine awp_blockC ?_ | refine awp_blockR ?_ | refine awp_skip ?_ | refine awp_ret ?_ | refine awp_exit ?_ | refine awp_region ?_ | refine awp_condM ?_ | refine And.intro ?_ ?_ | refine gE_splitN ?_ ?_ | refine gE_split ?_ ?_ | refine gQ_splitN ?_ ?_ | refine gQ_split ?_ ?_ | refine gM_splitN ?_ ?_ | refine gM_split ?_ ?_ | refine condM_splitDN ?_ ?_ | refine condM_splitD ?_ ?_ | refine condM_splitN ?_ ?_ | refine condM_split ?_ ?_ | refine condM_any ?_ ?_ | refine cw (within_c _ _ _) ?_ | refine cw (unless_c _ _) ?_ | intro _) | (simp [*]))
  all_goals exact inI64 (by omega) (by omega)
theorem roadErr_c (n : Net) (i : Int) (h : n.roads.length < 1000) : RealCall Tryz.prog 35 [aNet n, .int .i64 i] (.int .i64 (errUnless (winB i 0 (n.roads.length - 1)) 6)) true := by
  unfold aNet cNet
  refine realcall_intro Tryz.func35 (by kernel_rfl) rfl (Nat.le_of_ble_eq_true (by kernel_rfl)) ?_
  simp only [Tryz.results35, Tryz.ntmps35]
  repeat' (first | (with_reducible first | refine awp_seq ?_ | refine awp_blockS ?_ | refine awp_blockC ?_ | refine awp_blockR ?_ | refine awp_skip ?_ | refine awp_ret ?_ | refine awp_exit ?_ | refine awp_region ?_ | refine awp_condM ?_ | refine And.intro ?_ ?_ | refine gE_splitN ?_ ?_ | refine gE_split ?_ ?_ | refine gQ_splitN ?_ ?_ | refine gQ_split ?_ ?_ | refine gM_splitN ?_ ?_ | refine gM_split ?_ ?_ | refine condM_splitDN ?_ ?_ | refine condM_splitD ?_ ?_ | refine condM_splitN ?_ ?_ | refine condM_split ?_ ?_ | refine condM_any ?_ ?_ | refine cw (within_c _ _ _) ?_ | refine cw (unless_c _ _) ?_ | intro _) | (simp [*]))
  all_goals exact inI64 (by omega) (by omega)
theorem rIsPlace_c (n : Net) (i : Int) (h : n.places.length < 1000) : RealCall Tryz.prog 87 [aNet n, .int .i64 i] (.bool (winB i 0 (n.places.length - 1))) true := by
  unfold aNet cNet
  refine realcall_intro Tryz.func87 (by kernel_rfl) rfl (Nat.le_of_ble_eq_true (by kernel_rfl)) ?_
  simp only [Tryz.results87, Tryz.ntmps87]
  repeat' (first | (with_reducible first | refine awp_seq ?_ | refine awp_blockS ?_ | refine awp_blockC ?_ | refine awp_blockR ?_ | refine awp_skip ?_ | refine awp_ret ?_ | refine awp_exit ?_ | refine awp_region ?_ | refine awp_condM ?_ | refine And.intro ?_ ?_ | refine gE_splitN ?_ ?_ | refine gE_split ?_ ?_ | refine gQ_splitN ?_ ?_ | refine gQ_split ?_ ?_ | refine gM_splitN ?_ ?_ | refine gM_split ?_ ?_ | refine condM_splitDN ?_ ?_ | refine condM_splitD ?_ ?_ | refine condM_splitN ?_ ?_ | refine condM_split ?_ ?_ | refine condM_any ?_ ?_ | refine cw (rWithin_c _ _ _) ?_ | intro _) | (simp [*]))
  all_goals exact inI64 (by omega) (by omega)
structure Trip where
  frm : Int
  to : Int
  at_ : Int
  deriving Inhabited
def cTrip (t : Trip) : PV := .agg [.int .i64 t.frm, .int .i64 t.to, .int .i64 t.at_]
def firstS : List Int → Int
  | [] => 0
  | e :: r => if e = 0 then firstS r else e
def ints (l : List Int) : List PV := l.map (.int .i64)
@[simp] theorem ints_len (l : List Int) : (ints l).length = l.length := by simp [ints]
@[simp] theorem ints_get (l : List Int) (k : Nat) (h : k < l.length) : nthP (ints l) k = .int .i64 (nth l k) := nthP_map _ l k h
theorem drop_nth (l : List Int) (k : Nat) (h : k < l.length) : l.drop k = nth l k :: l.drop (k + 1) := by
  rw [List.drop_eq_getElem_cons h]; simp [nth, List.getD_eq_getElem?_getD, List.getElem?_eq_getElem h]
theorem first_c (l : List Int) (h : l.length < 1000) : RealCall Tryz.prog 34 [.sl l.length (ints l)] (.int .i64 (firstS l)) true := by
  refine realcall_intro Tryz.func34 (by kernel_rfl) rfl (Nat.le_of_ble_eq_true (by kernel_rfl)) ?_
  simp only [Tryz.results34, Tryz.ntmps34]
  repeat' (first | (with_reducible first | refine awp_seq ?_ | refine awp_blockS ?_ | refine awp_blockC ?_ | refine awp_blockR ?_ | refine awp_skip ?_ | refine awp_ret ?_ | refine awp_exit ?_ | refine awp_region ?_ | refine awp_condM ?_ | refine And.intro ?_ ?_ | refine gE_splitN ?_ ?_ | refine gE_split ?_ ?_ | refine gQ_splitN ?_ ?_ | refine gQ_split ?_ ?_ | refine gM_splitN ?_ ?_ | refine gM_split ?_ ?_ | refine condM_splitDN ?_ ?_ | refine condM_splitD ?_ ?_ | refine condM_splitN ?_ ?_ | refine condM_split ?_ ?_ | refine condM_any ?_ ?_ | intro _) | (simp [*]))
  refine awp_for2 (fun k : Nat => k ≤ l.length ∧ firstS (l.drop k) = firstS l) [5, 6] (fun k => [(7, .w false false (.int .i64 k))]) (fun _ => []) (fun k => l.length - k)
    (fun _ : Unit => firstS l = 0) [] (fun _ => []) (fun _ => []) 0 ⟨Nat.zero_le _, rfl⟩ (by simp) (by simp) (fun k hk => ?_) (fun _ hf => ?_)
  · obtain ⟨hk, hf⟩ := hk
    repeat' (first | (with_reducible first | refine awp_seq ?_ | refine awp_blockS ?_ | refine awp_blockC ?_ | refine awp_blockR ?_ | refine awp_skip ?_ | refine awp_ret ?_ | refine awp_exit ?_ | refine awp_region ?_ | refine awp_condM ?_ | refine And.intro ?_ ?_ | refine gE_splitN ?_ ?_ | refine gE_split ?_ ?_ | refine gQ_splitN ?_ ?_ | refine gQ_split ?_ ?_ | refine gM_splitN ?_ ?_ | refine gM_split ?_ ?_ | refine condM_splitDN ?_ ?_ | refine condM_splitD ?_ ?_ | refine condM_splitN ?_ ?_ | refine condM_split ?_ ?_ | refine condM_any ?_ ?_ | intro _) | (simp [*, firstS]))
    all_goals first
      | exact inI64 (by omega) (by omega)
      | omega
      | (rw [← hf, drop_nth l k (by omega)]; simp_all [firstS]; done)
      | (refine loopK_normal _ _ _ _ _ (k + 1) _ ?_ (by first | omega | (dsimp only; omega) | (simp; omega)) ?_; (· refine ⟨by omega, ?_⟩; rw [← hf, drop_nth l k (by omega)]; simp_all [firstS]); (refine le_of ?_ ?_ <;> first | trivial | (simp [*]; done)))
      | (refine finW_intro () ?_ ?_; (· rw [← hf, List.drop_eq_nil_of_le (by omega)]; rfl); (refine le_of ?_ ?_ <;> first | trivial | (simp [*]; done)))
  · repeat' (first | (with_reducible first | refine awp_seq ?_ | refine awp_blockS ?_ | refine awp_blockC ?_ | refine awp_blockR ?_ | refine awp_skip ?_ | refine awp_ret ?_ | refine awp_exit ?_ | refine awp_region ?_ | refine awp_condM ?_ | refine And.intro ?_ ?_ | refine gE_splitN ?_ ?_ | refine gE_split ?_ ?_ | refine gQ_splitN ?_ ?_ | refine gQ_split ?_ ?_ | refine gM_splitN ?_ ?_ | refine gM_split ?_ ?_ | refine condM_splitDN ?_ ?_ | refine condM_splitD ?_ ?_ | refine condM_splitN ?_ ?_ | refine condM_split ?_ ?_ | refine condM_any ?_ ?_ | intro _) | (simp [*]))
theorem first2_c (a b : Int) : RealCall Tryz.prog 34 [.sl 2 [.int .i64 a, .int .i64 b]] (.int .i64 (firstS [a, b])) true := first_c [a, b] (Nat.le_of_ble_eq_true rfl)
theorem first3_c (a b c : Int) : RealCall Tryz.prog 34 [.sl 3 [.int .i64 a, .int .i64 b, .int .i64 c]] (.int .i64 (firstS [a, b, c])) true := first_c [a, b, c] (Nat.le_of_ble_eq_true rfl)
theorem first7_c (a b c d e f g : Int) : RealCall Tryz.prog 34 [.sl 7 [.int .i64 a, .int .i64 b, .int .i64 c, .int .i64 d, .int .i64 e, .int .i64 f, .int .i64 g]] (.int .i64 (firstS [a, b, c, d, e, f, g])) true := first_c [a, b, c, d, e, f, g] (Nat.le_of_ble_eq_true rfl)
theorem tripErr_c (n : Net) (t : Trip) (h : n.places.length < 1000) : RealCall Tryz.prog 66 [aNet n, cTrip t] (.int .i64 (firstS [errUnless (winB t.frm 0 (n.places.length - 1)) 6, errUnless (winB t.to 0 (n.places.length - 1)) 6, errUnless (winB t.at_ 0 604800) 2])) true := by
  have hc := placeErr_c n t.frm h
  have hd := placeErr_c n t.to h
  unfold aNet cNet cTrip at *
  refine realcall_intro Tryz.func66 (by kernel_rfl) rfl (Nat.le_of_ble_eq_true (by kernel_rfl)) ?_
  simp only [Tryz.results66, Tryz.ntmps66]
  repeat' (first | (with_reducible first | refine awp_seq ?_ | refine awp_blockS ?_ | refine awp_blockC ?_ | refine awp_blockR ?_ | refine awp_skip ?_ | refine awp_ret ?_ | refine awp_exit ?_ | refine awp_region ?_ | refine awp_regionD (id := 1) 14 mixed (by decide +kernel) ?_ | refine awp_condM ?_ | refine And.intro ?_ ?_ | refine gE_splitN ?_ ?_ | refine gE_split ?_ ?_ | refine gQ_splitN ?_ ?_ | refine gQ_split ?_ ?_ | refine gM_splitN ?_ ?_ | refine gM_split ?_ ?_ | refine condM_splitDN ?_ ?_ | refine condM_splitD ?_ ?_ | refine condM_splitN ?_ ?_ | refine condM_split ?_ ?_ | refine condM_any ?_ ?_ | refine cw (hc) ?_ | refine cw (hd) ?_ | refine cw (timeErr_c _) ?_ | refine cw (first3_c _ _ _) ?_ | intro _) | (simp [*]))
theorem isTake_c (n : Int) : RealCall Tryz.prog 91 [.int .i64 n] (.bool (winB n 0 7200)) true := by
  refine realcall_intro Tryz.func91 (by kernel_rfl) rfl (Nat.le_of_ble_eq_true (by kernel_rfl)) ?_
  simp only [Tryz.results91, Tryz.ntmps91]
  repeat' (first | (with_reducible first | refine awp_seq ?_ | refine awp_blockS ?_ | refine awp_blockC ?_ | refine awp_blockR ?_ | refine awp_skip ?_ | refine awp_ret ?_ | refine awp_exit ?_ | refine awp_region ?_ | refine awp_condM ?_ | refine And.intro ?_ ?_ | refine gE_splitN ?_ ?_ | refine gE_split ?_ ?_ | refine gQ_splitN ?_ ?_ | refine gQ_split ?_ ?_ | refine gM_splitN ?_ ?_ | refine gM_split ?_ ?_ | refine condM_splitDN ?_ ?_ | refine condM_splitD ?_ ?_ | refine condM_splitN ?_ ?_ | refine condM_split ?_ ?_ | refine condM_any ?_ ?_ | refine cw (within_c _ _ _) ?_ | intro _) | (simp [*]))
end Go.Proofs.YtfpamehamllndaaGreatDoor
namespace Go.Proofs.YtfpamehamllndaaGreatDoor
open Go Go.Fi

def pointE (l : List Pt) (k : Nat) : Int :=
  firstS [errUnless (winB (nth l k).at_ 0 86399 && winB (nth l k).lo 0 7200 && winB (nth l k).hi 0 7200) 2,
    errUnless (decide ((nth l k).lo ≤ (nth l k).hi) && (decide (k = 0) || decide ((nth l (k - 1)).at_ < (nth l k).at_))) 9]
set_option maxHeartbeats 2000000 in
theorem pointErr_c (l : List Pt) (k : Nat) (h : k < l.length) (hl : l.length < 1000) : RealCall Tryz.prog 75 [.sl l.length (cPts l), .int .i64 k] (.int .i64 (pointE l k)) true := by
  have hk : k - 1 < l.length := by omega
  have hmax : (if (1 : Int) < (k : Int) then (k : Int) - 1 else 0) = ((k - 1 : Nat) : Int) := by split <;> omega
  refine realcall_intro Tryz.func75 (by kernel_rfl) rfl (Nat.le_of_ble_eq_true (by kernel_rfl)) ?_
  simp only [Tryz.results75, Tryz.ntmps75]
  repeat' (first | (with_reducible first | refine awp_seq ?_ | refine awp_blockS ?_ | refine awp_blockC ?_ | refine awp_blockR ?_ | refine awp_skip ?_ | refine awp_ret ?_ | refine awp_exit ?_ | refine awp_region ?_ | refine awp_regionD (id := 4) 29 mixed (by decide +kernel) ?_ | refine awp_condM ?_ | refine And.intro ?_ ?_ | refine gE_splitN ?_ ?_ | refine gE_split ?_ ?_ | refine gQ_splitN ?_ ?_ | refine gQ_split ?_ ?_ | refine gM_splitN ?_ ?_ | refine gM_split ?_ ?_ | refine condM_splitDN ?_ ?_ | refine condM_splitD ?_ ?_ | refine condM_splitN ?_ ?_ | refine condM_split ?_ ?_ | refine condM_any ?_ ?_ | refine cw (within_c _ _ _) ?_ | refine cw (isTake_c _) ?_ | refine cw (unless_c _ _) ?_ | refine cw (first2_c _ _) ?_ | intro _) | (simp [*, hmax]))
  all_goals first
    | exact inI64 (by omega) (by omega)
    | omega
    | (unfold pointE; simp only [*, Bool.and_true, Bool.and_false, Bool.true_and, Bool.false_and, Bool.or_true, Bool.or_false, Bool.true_or, Bool.false_or]; done)
    | (unfold pointE; simp_all; done)
    | skip

def inOrderB (l : List Pt) (k : Nat) : Bool :=
  decide ((nth l k).lo - gapS (nth l k).at_ (nth l ((k + 1) % l.length)).at_ ≤ (nth l ((k + 1) % l.length)).lo) && decide ((nth l k).hi - gapS (nth l k).at_ (nth l ((k + 1) % l.length)).at_ ≤ (nth l ((k + 1) % l.length)).hi)
set_option maxHeartbeats 2000000 in
theorem inOrder_c (l : List Pt) (k : Nat) (h : k < l.length) (hl : PtsOk l) : RealCall Tryz.prog 76 [.sl l.length (cPts l), .int .i64 k] (.bool (inOrderB l k)) true := by
  have cb := behind_c l k h hl.len hl.at_
  have b1 := hl.at_ _ h
  have hj : (k + 1) % l.length < l.length := Nat.mod_lt _ hl.pos
  have b2 := hl.at_ _ hj
  have v1 := hl.val _ h
  have v2 := hl.val _ hj
  have hg := gapS_bd b1 b2
  have hg2 : gapS (nth l k).at_ (nth l ((k + 1) % l.length)).at_ ≤ 86400 := by unfold gapS; split <;> omega
  unfold inOrderB
  generalize (k + 1) % l.length = j at *
  generalize gapS (nth l k).at_ (nth l j).at_ = g at *
  refine realcall_intro Tryz.func76 (by kernel_rfl) rfl (Nat.le_of_ble_eq_true (by kernel_rfl)) ?_
  simp only [Tryz.results76, Tryz.ntmps76]
  repeat' (first | (with_reducible first | refine awp_seq ?_ | refine awp_blockS ?_ | refine awp_blockC ?_ | refine awp_blockR ?_ | refine awp_skip ?_ | refine awp_ret ?_ | refine awp_exit ?_ | refine awp_region ?_ | refine awp_regionD (id := 2) 27 mixed (by decide +kernel) ?_ | refine awp_condM ?_ | refine And.intro ?_ ?_ | refine gE_splitN ?_ ?_ | refine gE_split ?_ ?_ | refine gQ_splitN ?_ ?_ | refine gQ_split ?_ ?_ | refine gM_splitN ?_ ?_ | refine gM_split ?_ ?_ | refine condM_splitDN ?_ ?_ | refine condM_splitD ?_ ?_ | refine condM_splitN ?_ ?_ | refine condM_split ?_ ?_ | refine condM_any ?_ ?_ | refine cw (cb) ?_ | intro _) | (simp [*]))
  all_goals first
    | exact inI64 (by omega) (by omega)
    | omega
    | (simp_all; done)
    | skip

end Go.Proofs.YtfpamehamllndaaGreatDoor
namespace Go.Proofs.YtfpamehamllndaaGreatDoor
open Go Go.Fi

def letterB (c : Nat) : Bool := decide ((97 : Int) ≤ c) && decide ((c : Int) ≤ 122) || decide ((65 : Int) ≤ c) && decide ((c : Int) ≤ 90)
def okB (k c : Nat) : Bool := letterB c || !(decide (k = 0)) && (decide (c = 45) || decide ((48 : Int) ≤ c) && decide ((c : Int) ≤ 57))
def okUpto (s : ByteArray) : Nat → Bool
  | 0 => true
  | k + 1 => okUpto s k && okB k (byteAt s k)
theorem okUpto_false (s : ByteArray) (k : Nat) (h : okB k (byteAt s k) = false) : ∀ n, k < n → okUpto s n = false
  | 0, hn => by omega
  | n + 1, hn => by
    unfold okUpto
    by_cases e : k = n
    · subst e; simp [h]
    · rw [okUpto_false s k h n (by omega)]; rfl
def nameB (s : ByteArray) : Bool := okUpto s s.size && decide (s.size ≠ 0) && decide (s.size ≤ 12)
theorem nameB_no0 {s : ByteArray} (h : s.size = 0) : nameB s = false := by simp [nameB, h]
theorem nameB_no12 {s : ByteArray} (h : 12 < s.size) : nameB s = false := by simp [nameB]; intros; omega
theorem nameB_yes {s : ByteArray} (h : okUpto s s.size = true) (h0 : s.size ≠ 0) : nameB s = decide (s.size ≤ 12) := by simp [nameB, h, h0]
set_option maxHeartbeats 4000000 in
theorem isName_c (s : ByteArray) (hs : s.size < 1000000) : RealCall Tryz.prog 71 [.str s] (.bool (nameB s)) true := by
  refine realcall_intro Tryz.func71 (by kernel_rfl) rfl (Nat.le_of_ble_eq_true (by kernel_rfl)) ?_
  simp only [Tryz.results71, Tryz.ntmps71]
  repeat' (first | (with_reducible first | refine awp_seq ?_ | refine awp_blockS ?_ | refine awp_blockC ?_ | refine awp_blockR ?_ | refine awp_skip ?_ | refine awp_ret ?_ | refine awp_exit ?_ | refine awp_region ?_ | refine awp_condM ?_ | refine And.intro ?_ ?_ | refine gE_splitN ?_ ?_ | refine gE_split ?_ ?_ | refine gQ_splitN ?_ ?_ | refine gQ_split ?_ ?_ | refine gM_splitN ?_ ?_ | refine gM_split ?_ ?_ | refine condM_splitDN ?_ ?_ | refine condM_splitD ?_ ?_ | refine condM_splitN ?_ ?_ | refine condM_split ?_ ?_ | refine condM_any ?_ ?_ | intro _) | (simp [*]))
  refine awp_for2 (fun k : Nat => k ≤ s.size ∧ okUpto s k = true) [0, 7, 8] (fun k => [(9, .w false false (.int .i64 k))]) (fun _ => []) (fun k => s.size - k)
    (fun _ : Unit => okUpto s s.size = true) [0] (fun _ => []) (fun _ => []) 0 ⟨Nat.zero_le _, rfl⟩ (by simp) (by simp) (fun k hk => ?_) (fun _ hf => ?_)
  · obtain ⟨hk, hf⟩ := hk
    repeat' (first | (with_reducible first | refine awp_seq ?_ | refine awp_blockS ?_ | refine awp_blockC ?_ | refine awp_blockR ?_ | refine awp_skip ?_ | refine awp_ret ?_ | refine awp_exit ?_ | refine awp_region ?_ | refine awp_condM ?_ | refine And.intro ?_ ?_ | refine gE_splitN ?_ ?_ | refine gE_split ?_ ?_ | refine gQ_splitN ?_ ?_ | refine gQ_split ?_ ?_ | refine gM_splitN ?_ ?_ | refine gM_split ?_ ?_ | refine condM_splitDN ?_ ?_ | refine condM_splitD ?_ ?_ | refine condM_splitN ?_ ?_ | refine condM_split ?_ ?_ | refine condM_any ?_ ?_ | intro _) | (simp [*]))
    all_goals first
      | exact inI64 (by omega) (by omega)
      | omega
      | (refine loopK_normal _ _ _ _ _ (k + 1) _ ?_ (by first | omega | (dsimp only; omega) | (simp; omega)) ?_; (· refine ⟨by omega, ?_⟩; unfold okUpto; rw [hf]; clear hf; simp [okB, letterB] at *; omega); (refine le_of ?_ ?_ <;> first | trivial | (simp [*]; done)))
      | (refine finW_intro () ?_ ?_; (· rw [show s.size = k by omega]; exact hf); (refine le_of ?_ ?_ <;> first | trivial | (simp [*]; done)))
      | (unfold nameB; rw [okUpto_false s k (by clear hf; simp [okB, letterB] at *; omega) s.size (by omega)]; rfl)
  · repeat' (first | (with_reducible first | refine awp_seq ?_ | refine awp_blockS ?_ | refine awp_blockC ?_ | refine awp_blockR ?_ | refine awp_skip ?_ | refine awp_ret ?_ | refine awp_exit ?_ | refine awp_region ?_ | refine awp_condM ?_ | refine And.intro ?_ ?_ | refine gE_splitN ?_ ?_ | refine gE_split ?_ ?_ | refine gQ_splitN ?_ ?_ | refine gQ_split ?_ ?_ | refine gM_splitN ?_ ?_ | refine gM_split ?_ ?_ | refine condM_splitDN ?_ ?_ | refine condM_splitD ?_ ?_ | refine condM_splitN ?_ ?_ | refine condM_split ?_ ?_ | refine condM_any ?_ ?_ | intro _) | (simp [*]))
    · rename_i h0
      have h0' : s ≠ { data := #[] } := by simpa using h0
      rw [nameB_yes hf (fun h => h0' ((str_empty s).2 h))]; simp; omega
    · rename_i h0; rw [nameB_no0 ((str_empty s).1 (by have h1 : s = { data := #[] } := by simpa using h0
                                                      exact h1))]
set_option maxHeartbeats 4000000 in
theorem rIsName_c (s : ByteArray) (hs : s.size < 1000000) : RealCall Tryz.prog 59 [.str s] (.bool (nameB s)) true := by
  refine realcall_intro Tryz.func59 (by kernel_rfl) rfl (Nat.le_of_ble_eq_true (by kernel_rfl)) ?_
  simp only [Tryz.results59, Tryz.ntmps59]
  repeat' (first | (with_reducible first | refine awp_seq ?_ | refine awp_blockS ?_ | refine awp_blockC ?_ | refine awp_blockR ?_ | refine awp_skip ?_ | refine awp_ret ?_ | refine awp_exit ?_ | refine awp_region ?_ | refine awp_condM ?_ | refine And.intro ?_ ?_ | refine gE_splitN ?_ ?_ | refine gE_split ?_ ?_ | refine gQ_splitN ?_ ?_ | refine gQ_split ?_ ?_ | refine gM_splitN ?_ ?_ | refine gM_split ?_ ?_ | refine condM_splitDN ?_ ?_ | refine condM_splitD ?_ ?_ | refine condM_splitN ?_ ?_ | refine condM_split ?_ ?_ | refine condM_any ?_ ?_ | intro _) | (simp [*]))
  · exact nameB_no12 (by omega)
  rotate_left
  · rename_i h0; exact nameB_no0 (by have := of_decide_eq_true h0; omega)
  rename_i hA hB
  have hpos : s.size ≠ 0 := by have := of_decide_eq_false hA; omega
  refine awp_for2 (fun k : Nat => k ≤ s.size ∧ okUpto s k = true) [0] (fun k => [(3, .w false false (.int .i64 k))]) (fun _ => []) (fun k => s.size - k)
    (fun _ : Unit => okUpto s s.size = true) [0] (fun _ => []) (fun _ => []) 0 ⟨Nat.zero_le _, rfl⟩ (by simp) (by simp) (fun k hk => ?_) (fun _ hf => ?_)
  · obtain ⟨hk, hf⟩ := hk
    repeat' (first | (with_reducible first | refine awp_seq ?_ | refine awp_blockS ?_ | refine awp_blockC ?_ | refine awp_blockR ?_ | refine awp_skip ?_ | refine awp_ret ?_ | refine awp_exit ?_ | refine awp_region ?_ | refine awp_condM ?_ | refine And.intro ?_ ?_ | refine gE_splitN ?_ ?_ | refine gE_split ?_ ?_ | refine gQ_splitN ?_ ?_ | refine gQ_split ?_ ?_ | refine gM_splitN ?_ ?_ | refine gM_split ?_ ?_ | refine condM_splitDN ?_ ?_ | refine condM_splitD ?_ ?_ | refine condM_splitN ?_ ?_ | refine condM_split ?_ ?_ | refine condM_any ?_ ?_ | intro _) | (simp [*]))
    all_goals first
      | exact inI64 (by omega) (by omega)
      | omega
      | (refine loopK_normal _ _ _ _ _ (k + 1) _ ?_ (by first | omega | (dsimp only; omega) | (simp; omega)) ?_; (· refine ⟨by omega, ?_⟩; unfold okUpto; rw [hf]; clear hf; simp [okB, letterB] at *; omega); (refine le_of ?_ ?_ <;> first | trivial | (simp [*]; done)))
      | (refine finW_intro () ?_ ?_; (· rw [show s.size = k by omega]; exact hf); (refine le_of ?_ ?_ <;> first | trivial | (simp [*]; done)))
      | (unfold nameB; rw [okUpto_false s k (by clear hf; simp [okB, letterB] at *; omega) s.size (by omega)]; rfl)
  · repeat' (first | (with_reducible first | refine awp_seq ?_ | refine awp_blockS ?_ | refine awp_blockC ?_ | refine awp_blockR ?_ | refine awp_skip ?_ | refine awp_ret ?_ | refine awp_exit ?_ | refine awp_region ?_ | refine awp_condM ?_ | refine And.intro ?_ ?_ | refine gE_splitN ?_ ?_ | refine gE_split ?_ ?_ | refine gQ_splitN ?_ ?_ | refine gQ_split ?_ ?_ | refine gM_splitN ?_ ?_ | refine gM_split ?_ ?_ | refine condM_splitDN ?_ ?_ | refine condM_splitD ?_ ?_ | refine condM_splitN ?_ ?_ | refine condM_split ?_ ?_ | refine condM_any ?_ ?_ | intro _) | (simp [*]))
    all_goals (rw [nameB_yes hf hpos]; simp; omega)
end Go.Proofs.YtfpamehamllndaaGreatDoor
namespace Go.Proofs.YtfpamehamllndaaGreatDoor
open Go Go.Fi

@[simp] theorem cRoads_len (l : List Road) : (cRoads l).length = l.length * 5 := flatMap_len cRoad 5 (fun _ => rfl) l
@[simp] theorem cRoads_drop (l : List Road) (k : Nat) (h : k < l.length) : ((cRoads l).drop (k * 5)).take 5 = cRoad (nth l k) := flatMap_drop cRoad 5 (fun _ => rfl) l k h
@[simp] theorem cRoads_0 (l : List Road) (k : Nat) (h : k < l.length) : nthP (cRoads l) (k * 5) = .str (nth l k).name := flatMap_get cRoad 5 (fun _ => rfl) l k 0 h (by omega)
@[simp] theorem cRoads_1 (l : List Road) (k : Nat) (h : k < l.length) : nthP (cRoads l) (k * 5 + 1) = .int .i64 (nth l k).frm := flatMap_get cRoad 5 (fun _ => rfl) l k 1 h (by omega)
@[simp] theorem cRoads_2 (l : List Road) (k : Nat) (h : k < l.length) : nthP (cRoads l) (k * 5 + 2) = .int .i64 (nth l k).to := flatMap_get cRoad 5 (fun _ => rfl) l k 2 h (by omega)
@[simp] theorem cRoads_3 (l : List Road) (k : Nat) (h : k < l.length) : nthP (cRoads l) (k * 5 + 3) = .int .i64 (nth l k).metres := flatMap_get cRoad 5 (fun _ => rfl) l k 3 h (by omega)
@[simp] theorem cRoads_4 (l : List Road) (k : Nat) (h : k < l.length) : nthP (cRoads l) (k * 5 + 4) = .sl (nth l k).pts.length (cPts (nth l k).pts) := flatMap_get cRoad 5 (fun _ => rfl) l k 4 h (by omega)

/-- the first of which something is so, from a number on -/
def idxFrom {α : Type} [Inhabited α] (p : α → Bool) (l : List α) : Nat → Nat → Int
  | 0, _ => -1
  | f + 1, k => if k < l.length then (if p (nth l k) then (k : Int) else idxFrom p l f (k + 1)) else -1
def idxS {α : Type} [Inhabited α] (p : α → Bool) (l : List α) : Int := idxFrom p l l.length 0
theorem idxFrom_end {α : Type} [Inhabited α] (p : α → Bool) (l : List α) (k : Nat) (h : l.length ≤ k) : idxFrom p l (l.length - k) k = -1 := by
  rw [show l.length - k = 0 by omega]; rfl
theorem idxFrom_hit {α : Type} [Inhabited α] (p : α → Bool) (l : List α) (k : Nat) (h : k < l.length) (hp : p (nth l k) = true) : idxFrom p l (l.length - k) k = k := by
  rw [show l.length - k = (l.length - k - 1) + 1 by omega]; simp [idxFrom, h, hp]
theorem idxFrom_miss {α : Type} [Inhabited α] (p : α → Bool) (l : List α) (k : Nat) (h : k < l.length) (hp : p (nth l k) = false) : idxFrom p l (l.length - k) k = idxFrom p l (l.length - (k + 1)) (k + 1) := by
  rw [show l.length - k = (l.length - (k + 1)) + 1 by omega]; simp [idxFrom, h, hp]
theorem idxFrom_any {α : Type} [Inhabited α] (p : α → Bool) (l : List α) : ∀ f k, l.length - k = f → decide (0 ≤ idxFrom p l f k) = (l.drop k).any p
  | 0, k, h => by simp [idxFrom, List.drop_eq_nil_of_le (show l.length ≤ k by omega)]
  | f + 1, k, h => by
    have hk : k < l.length := by omega
    have hn : nth l k = l[k] := by simp [nth, List.getD_eq_getElem?_getD, List.getElem?_eq_getElem hk]
    rw [List.drop_eq_getElem_cons hk, List.any_cons, ← hn, ← idxFrom_any p l f (k + 1) (by omega)]
    simp only [idxFrom, hk, if_true]
    cases p (nth l k) <;> simp
theorem idxS_any {α : Type} [Inhabited α] (p : α → Bool) (l : List α) : decide (0 ≤ idxS p l) = l.any p := idxFrom_any p l _ 0 rfl

theorem index_c (l : List ByteArray) (s : ByteArray) (hl : l.length < 1000) : RealCall Tryz.prog 27 [.sl l.length (strs l), .str s] (.int .i64 (idxS (fun x => decide (s = x)) l)) true := by
  refine realcall_intro Tryz.func27 (by kernel_rfl) rfl (Nat.le_of_ble_eq_true (by kernel_rfl)) ?_
  simp only [Tryz.results27, Tryz.ntmps27]
  repeat' (first | (with_reducible first | refine awp_seq ?_ | refine awp_blockS ?_ | refine awp_blockC ?_ | refine awp_blockR ?_ | refine awp_skip ?_ | refine awp_ret ?_ | refine awp_exit ?_ | refine awp_region ?_ | refine awp_condM ?_ | refine And.intro ?_ ?_ | refine gE_splitN ?_ ?_ | refine gE_split ?_ ?_ | refine gQ_splitN ?_ ?_ | refine gQ_split ?_ ?_ | refine gM_splitN ?_ ?_ | refine gM_split ?_ ?_ | refine condM_splitDN ?_ ?_ | refine condM_splitD ?_ ?_ | refine condM_splitN ?_ ?_ | refine condM_split ?_ ?_ | refine condM_any ?_ ?_ | intro _) | (simp [*]))
  refine awp_for2 (fun k : Nat => k ≤ l.length ∧ idxFrom (fun x => decide (s = x)) l (l.length - k) k = idxS (fun x => decide (s = x)) l) [0, 1, 6, 7] (fun k => [(8, .w false false (.int .i64 k))]) (fun _ => []) (fun k => l.length - k)
    (fun _ : Unit => idxS (fun x => decide (s = x)) l = -1) [] (fun _ => []) (fun _ => []) 0 ⟨Nat.zero_le _, rfl⟩ (by simp) (by simp) (fun k hk => ?_) (fun _ hf => ?_)
  · obtain ⟨hk, hf⟩ := hk
    repeat' (first | (with_reducible first | refine awp_seq ?_ | refine awp_blockS ?_ | refine awp_blockC ?_ | refine awp_blockR ?_ | refine awp_skip ?_ | refine awp_ret ?_ | refine awp_exit ?_ | refine awp_region ?_ | refine awp_condM ?_ | refine And.intro ?_ ?_ | refine gE_splitN ?_ ?_ | refine gE_split ?_ ?_ | refine gQ_splitN ?_ ?_ | refine gQ_split ?_ ?_ | refine gM_splitN ?_ ?_ | refine gM_split ?_ ?_ | refine condM_splitDN ?_ ?_ | refine condM_splitD ?_ ?_ | refine condM_splitN ?_ ?_ | refine condM_split ?_ ?_ | refine condM_any ?_ ?_ | intro _) | (simp [*]))
    all_goals first
      | exact inI64 (by omega) (by omega)
      | omega
      | (rename_i h0; subst h0; rw [← hf, idxFrom_hit _ l k (by omega) (by simp)]; done)
      | (rename_i h0; rw [← hf, idxFrom_hit _ l k (by omega) (by simpa using h0)]; done)
      | (rename_i h0; (refine loopK_normal _ _ _ _ _ (k + 1) _ ?_ (by first | omega | (dsimp only; omega) | (simp; omega)) ?_; (· refine ⟨by omega, ?_⟩; rw [← hf, idxFrom_miss _ l k (by omega) (by simpa using h0)]); (refine le_of ?_ ?_ <;> first | trivial | (simp [*]; done))))
      | (refine finW_intro () ?_ ?_; (· rw [← hf, idxFrom_end _ l k (by omega)]); (refine le_of ?_ ?_ <;> first | trivial | (simp [*]; done)))
      | skip
  · repeat' (first | (with_reducible first | refine awp_seq ?_ | refine awp_blockS ?_ | refine awp_blockC ?_ | refine awp_blockR ?_ | refine awp_skip ?_ | refine awp_ret ?_ | refine awp_exit ?_ | refine awp_region ?_ | refine awp_condM ?_ | refine And.intro ?_ ?_ | refine gE_splitN ?_ ?_ | refine gE_split ?_ ?_ | refine gQ_splitN ?_ ?_ | refine gQ_split ?_ ?_ | refine gM_splitN ?_ ?_ | refine gM_split ?_ ?_ | refine condM_splitDN ?_ ?_ | refine condM_splitD ?_ ?_ | refine condM_splitN ?_ ?_ | refine condM_split ?_ ?_ | refine condM_any ?_ ?_ | intro _) | (simp [*]))
theorem contains_c (l : List ByteArray) (s : ByteArray) (hl : l.length < 1000) : RealCall Tryz.prog 54 [.sl l.length (strs l), .str s] (.bool (l.any fun x => decide (s = x))) true := by
  have hc := index_c l s hl
  refine realcall_intro Tryz.func54 (by kernel_rfl) rfl (Nat.le_of_ble_eq_true (by kernel_rfl)) ?_
  simp only [Tryz.results54, Tryz.ntmps54]
  repeat' (first | (with_reducible first | refine awp_seq ?_ | refine awp_blockS ?_ | refine awp_blockC ?_ | refine awp_blockR ?_ | refine awp_skip ?_ | refine awp_ret ?_ | refine awp_exit ?_ | refine awp_region ?_ | refine awp_condM ?_ | refine And.intro ?_ ?_ | refine gE_splitN ?_ ?_ | refine gE_split ?_ ?_ | refine gQ_splitN ?_ ?_ | refine gQ_split ?_ ?_ | refine gM_splitN ?_ ?_ | refine gM_split ?_ ?_ | refine condM_splitDN ?_ ?_ | refine condM_splitD ?_ ?_ | refine condM_splitN ?_ ?_ | refine condM_split ?_ ?_ | refine condM_any ?_ ?_ | refine cw (hc) ?_ | intro _) | (simp [*, idxS_any]))
theorem rHasText_c (l : List ByteArray) (s : ByteArray) (hl : l.length < 1000) : RealCall Tryz.prog 57 [.sl l.length (strs l), .str s] (.bool (l.any fun x => decide (x = s))) true := by
  rw [← idxS_any]
  refine realcall_intro Tryz.func57 (by kernel_rfl) rfl (Nat.le_of_ble_eq_true (by kernel_rfl)) ?_
  simp only [Tryz.results57, Tryz.ntmps57]
  repeat' (first | (with_reducible first | refine awp_seq ?_ | refine awp_blockS ?_ | refine awp_blockC ?_ | refine awp_blockR ?_ | refine awp_skip ?_ | refine awp_ret ?_ | refine awp_exit ?_ | refine awp_region ?_ | refine awp_condM ?_ | refine And.intro ?_ ?_ | refine gE_splitN ?_ ?_ | refine gE_split ?_ ?_ | refine gQ_splitN ?_ ?_ | refine gQ_split ?_ ?_ | refine gM_splitN ?_ ?_ | refine gM_split ?_ ?_ | refine condM_splitDN ?_ ?_ | refine condM_splitD ?_ ?_ | refine condM_splitN ?_ ?_ | refine condM_split ?_ ?_ | refine condM_any ?_ ?_ | intro _) | (simp [*]))
  refine awp_for2 (fun k : Nat => k ≤ l.length ∧ idxFrom (fun x => decide (x = s)) l (l.length - k) k = idxS (fun x => decide (x = s)) l) [0, 1] (fun k => [(5, .w false false (.int .i64 k))]) (fun _ => []) (fun k => l.length - k)
    (fun _ : Unit => idxS (fun x => decide (x = s)) l = -1) [] (fun _ => []) (fun _ => []) 0 ⟨Nat.zero_le _, rfl⟩ (by simp) (by simp) (fun k hk => ?_) (fun _ hf => ?_)
  · obtain ⟨hk, hf⟩ := hk
    repeat' (first | (with_reducible first | refine awp_seq ?_ | refine awp_blockS ?_ | refine awp_blockC ?_ | refine awp_blockR ?_ | refine awp_skip ?_ | refine awp_ret ?_ | refine awp_exit ?_ | refine awp_region ?_ | refine awp_condM ?_ | refine And.intro ?_ ?_ | refine gE_splitN ?_ ?_ | refine gE_split ?_ ?_ | refine gQ_splitN ?_ ?_ | refine gQ_split ?_ ?_ | refine gM_splitN ?_ ?_ | refine gM_split ?_ ?_ | refine condM_splitDN ?_ ?_ | refine condM_splitD ?_ ?_ | refine condM_splitN ?_ ?_ | refine condM_split ?_ ?_ | refine condM_any ?_ ?_ | intro _) | (simp [*]))
    all_goals first
      | exact inI64 (by omega) (by omega)
      | omega
      | (rename_i h0; rw [← hf, idxFrom_hit _ l k (by omega) (by simpa using h0)]; done)
      | (rename_i h0; rw [← hf, idxFrom_hit _ l k (by omega) (by simpa using h0)]; simp; done)
      | (rename_i h0; (refine loopK_normal _ _ _ _ _ (k + 1) _ ?_ (by first | omega | (dsimp only; omega) | (simp; omega)) ?_; (· refine ⟨by omega, ?_⟩; rw [← hf, idxFrom_miss _ l k (by omega) (by simpa using h0)]); (refine le_of ?_ ?_ <;> first | trivial | (simp [*]; done))))
      | (refine finW_intro () ?_ ?_; (· rw [← hf, idxFrom_end _ l k (by omega)]); (refine le_of ?_ ?_ <;> first | trivial | (simp [*]; done)))
      | skip
  · repeat' (first | (with_reducible first | refine awp_seq ?_ | refine awp_blockS ?_ | refine awp_blockC ?_ | refine awp_blockR ?_ | refine awp_skip ?_ | refine awp_ret ?_ | refine awp_exit ?_ | refine awp_region ?_ | refine awp_condM ?_ | refine And.intro ?_ ?_ | refine gE_splitN ?_ ?_ | refine gE_split ?_ ?_ | refine gQ_splitN ?_ ?_ | refine gQ_split ?_ ?_ | refine gM_splitN ?_ ?_ | refine gM_split ?_ ?_ | refine condM_splitDN ?_ ?_ | refine condM_splitD ?_ ?_ | refine condM_splitN ?_ ?_ | refine condM_split ?_ ?_ | refine condM_any ?_ ?_ | intro _) | (simp [*]))
theorem indexFunc_c (l : List Road) (g : Nat) (caps : List PV) (p : Road → Bool) (hl : l.length < 1000) (hp : ∀ k, k < l.length → RealCall Tryz.prog g (.agg (cRoad (nth l k)) :: caps) (.bool (p (nth l k))) true) :
    RealCall Tryz.prog 90 [.sl l.length (cRoads l), .fn g caps] (.int .i64 (idxS p l)) true := by
  refine realcall_intro Tryz.func90 (by kernel_rfl) rfl (Nat.le_of_ble_eq_true (by kernel_rfl)) ?_
  simp only [Tryz.results90, Tryz.ntmps90]
  repeat' (first | (with_reducible first | refine awp_seq ?_ | refine awp_blockS ?_ | refine awp_blockC ?_ | refine awp_blockR ?_ | refine awp_skip ?_ | refine awp_ret ?_ | refine awp_exit ?_ | refine awp_region ?_ | refine awp_condM ?_ | refine And.intro ?_ ?_ | refine gE_splitN ?_ ?_ | refine gE_split ?_ ?_ | refine gQ_splitN ?_ ?_ | refine gQ_split ?_ ?_ | refine gM_splitN ?_ ?_ | refine gM_split ?_ ?_ | refine condM_splitDN ?_ ?_ | refine condM_splitD ?_ ?_ | refine condM_splitN ?_ ?_ | refine condM_split ?_ ?_ | refine condM_any ?_ ?_ | intro _) | (simp [*]))
  refine awp_for2 (fun k : Nat => k ≤ l.length ∧ idxFrom p l (l.length - k) k = idxS p l) [0, 1, 6, 7] (fun k => [(8, .w false false (.int .i64 k))]) (fun _ => []) (fun k => l.length - k)
    (fun _ : Unit => idxS p l = -1) [] (fun _ => []) (fun _ => []) 0 ⟨Nat.zero_le _, rfl⟩ (by simp) (by simp) (fun k hk => ?_) (fun _ hf => ?_)
  · obtain ⟨hk, hf⟩ := hk
    have hc := hp k
    clear hp
    repeat' (first | (with_reducible first | refine awp_seq ?_ | refine awp_blockS ?_ | refine awp_blockC ?_ | refine awp_blockR ?_ | refine awp_skip ?_ | refine awp_ret ?_ | refine awp_exit ?_ | refine awp_region ?_ | refine awp_condM ?_ | refine And.intro ?_ ?_ | refine gE_splitN ?_ ?_ | refine gE_split ?_ ?_ | refine gQ_splitN ?_ ?_ | refine gQ_split ?_ ?_ | refine gM_splitN ?_ ?_ | refine gM_split ?_ ?_ | refine condM_splitDN ?_ ?_ | refine condM_splitD ?_ ?_ | refine condM_splitN ?_ ?_ | refine condM_split ?_ ?_ | refine condM_any ?_ ?_ | refine cw (hc (by omega)) ?_ | intro _) | (simp [*]))
    all_goals first
      | exact inI64 (by omega) (by omega)
      | omega
      | (rename_i h0; rw [← hf, idxFrom_hit _ l k (by omega) (by simpa using h0)]; done)
      | (rename_i h0; rw [← hf, idxFrom_hit _ l k (by omega) (by simpa using h0)]; simp; done)
      | (rename_i h0; (refine loopK_normal _ _ _ _ _ (k + 1) _ ?_ (by first | omega | (dsimp only; omega) | (simp; omega)) ?_; (· refine ⟨by omega, ?_⟩; rw [← hf, idxFrom_miss _ l k (by omega) (by simpa using h0)]); (refine le_of ?_ ?_ <;> first | trivial | (simp [*]; done))))
      | (refine finW_intro () ?_ ?_; (· rw [← hf, idxFrom_end _ l k (by omega)]); (refine le_of ?_ ?_ <;> first | trivial | (simp [*]; done)))
      | skip
  · repeat' (first | (with_reducible first | refine awp_seq ?_ | refine awp_blockS ?_ | refine awp_blockC ?_ | refine awp_blockR ?_ | refine awp_skip ?_ | refine awp_ret ?_ | refine awp_exit ?_ | refine awp_region ?_ | refine awp_condM ?_ | refine And.intro ?_ ?_ | refine gE_splitN ?_ ?_ | refine gE_split ?_ ?_ | refine gQ_splitN ?_ ?_ | refine gQ_split ?_ ?_ | refine gM_splitN ?_ ?_ | refine gM_split ?_ ?_ | refine condM_splitDN ?_ ?_ | refine condM_splitD ?_ ?_ | refine condM_splitN ?_ ?_ | refine condM_split ?_ ?_ | refine condM_any ?_ ?_ | intro _) | (simp [*]))
theorem containsFunc_c (l : List Road) (g : Nat) (caps : List PV) (p : Road → Bool) (hl : l.length < 1000) (hp : ∀ k, k < l.length → RealCall Tryz.prog g (.agg (cRoad (nth l k)) :: caps) (.bool (p (nth l k))) true) :
    RealCall Tryz.prog 73 [.sl l.length (cRoads l), .fn g caps] (.bool (l.any p)) true := by
  have hc := indexFunc_c l g caps p hl hp
  refine realcall_intro Tryz.func73 (by kernel_rfl) rfl (Nat.le_of_ble_eq_true (by kernel_rfl)) ?_
  simp only [Tryz.results73, Tryz.ntmps73]
  repeat' (first | (with_reducible first | refine awp_seq ?_ | refine awp_blockS ?_ | refine awp_blockC ?_ | refine awp_blockR ?_ | refine awp_skip ?_ | refine awp_ret ?_ | refine awp_exit ?_ | refine awp_region ?_ | refine awp_condM ?_ | refine And.intro ?_ ?_ | refine gE_splitN ?_ ?_ | refine gE_split ?_ ?_ | refine gQ_splitN ?_ ?_ | refine gQ_split ?_ ?_ | refine gM_splitN ?_ ?_ | refine gM_split ?_ ?_ | refine condM_splitDN ?_ ?_ | refine condM_splitD ?_ ?_ | refine condM_splitN ?_ ?_ | refine condM_split ?_ ?_ | refine condM_any ?_ ?_ | refine cw (hc) ?_ | intro _) | (simp [*, idxS_any]))
theorem sameName_c (r x : Road) : RealCall Tryz.prog 74 [.agg (cRoad r), .ip (cRoad x) 0] (.bool (decide (r.name = x.name))) true := by
  unfold cRoad
  refine realcall_intro Tryz.func74 (by kernel_rfl) rfl (Nat.le_of_ble_eq_true (by kernel_rfl)) ?_
  simp only [Tryz.results74, Tryz.ntmps74]
  repeat' (first | (with_reducible first | refine awp_seq ?_ | refine awp_blockS ?_ | refine awp_blockC ?_ | refine awp_blockR ?_ | refine awp_skip ?_ | refine awp_ret ?_ | refine awp_exit ?_ | refine awp_region ?_ | refine awp_condM ?_ | refine And.intro ?_ ?_ | refine gE_splitN ?_ ?_ | refine gE_split ?_ ?_ | refine gQ_splitN ?_ ?_ | refine gQ_split ?_ ?_ | refine gM_splitN ?_ ?_ | refine gM_split ?_ ?_ | refine condM_splitDN ?_ ?_ | refine condM_splitD ?_ ?_ | refine condM_splitN ?_ ?_ | refine condM_split ?_ ?_ | refine condM_any ?_ ?_ | intro _) | (simp [*]))
theorem isPlaceF_c (k : Int) (n : Net) (h : n.places.length < 1000) : RealCall Tryz.prog 72 [.int .i64 k, .ip (cNet n) 0] (.bool (winB k 0 (n.places.length - 1))) true := by
  unfold cNet
  refine realcall_intro Tryz.func72 (by kernel_rfl) rfl (Nat.le_of_ble_eq_true (by kernel_rfl)) ?_
  simp only [Tryz.results72, Tryz.ntmps72]
  repeat' (first | (with_reducible first | refine awp_seq ?_ | refine awp_blockS ?_ | refine awp_blockC ?_ | refine awp_blockR ?_ | refine awp_skip ?_ | refine awp_ret ?_ | refine awp_exit ?_ | refine awp_region ?_ | refine awp_condM ?_ | refine And.intro ?_ ?_ | refine gE_splitN ?_ ?_ | refine gE_split ?_ ?_ | refine gQ_splitN ?_ ?_ | refine gQ_split ?_ ?_ | refine gM_splitN ?_ ?_ | refine gM_split ?_ ?_ | refine condM_splitDN ?_ ?_ | refine condM_splitD ?_ ?_ | refine condM_splitN ?_ ?_ | refine condM_split ?_ ?_ | refine condM_any ?_ ?_ | refine cw (within_c _ _ _) ?_ | intro _) | (simp [*]))
  all_goals exact inI64 (by omega) (by omega)
end Go.Proofs.YtfpamehamllndaaGreatDoor
namespace Go.Proofs.YtfpamehamllndaaGreatDoor
open Go Go.Fi

theorem tmod_bd (n b : Int) (h : 0 < b) : -b < n.tmod b ∧ n.tmod b < b := by
  have h1 := Int.natAbs_tmod n b
  have h2 : (n.tmod b).natAbs < b.natAbs := by rw [h1]; exact Nat.mod_lt _ (by omega)
  omega
theorem tmod_emod (n b : Int) (h : 0 < b) : (if n.tmod b < 0 then n.tmod b + b else n.tmod b) = n % b := by
  have hb := tmod_bd n b h
  have h1 : n % b = n.tmod b % b := by
    conv => lhs; rw [← Int.mul_tdiv_add_tmod n b]
    rw [Int.mul_add_emod_self_left]
  rw [h1]
  split
  · rw [← Int.add_emod_right, Int.emod_eq_of_lt (by omega) (by omega)]
  · rw [Int.emod_eq_of_lt (by omega) (by omega)]
theorem rMod_c (n b : Int) (h : 0 < b) (hb : b ≤ 1000000) : RealCall Tryz.prog 89 [.int .i64 n, .int .i64 b] (.int .i64 (n % b)) true := by
  have h1 := tmod_bd n b h
  have h2 := tmod_emod n b h
  have h0 : b ≠ 0 := by omega
  rw [← h2]
  clear h2
  refine realcall_intro Tryz.func89 (by kernel_rfl) rfl (Nat.le_of_ble_eq_true (by kernel_rfl)) ?_
  simp only [Tryz.results89, Tryz.ntmps89]
  repeat' (first | (with_reducible first | refine awp_seq ?_ | refine awp_blockS ?_ | refine awp_blockC ?_ | refine awp_blockR ?_ | refine awp_skip ?_ | refine awp_ret ?_ | refine awp_exit ?_ | refine awp_region ?_ | refine awp_condM ?_ | refine And.intro ?_ ?_ | refine gE_splitN ?_ ?_ | refine gE_split ?_ ?_ | refine gQ_splitN ?_ ?_ | refine gQ_split ?_ ?_ | refine gM_splitN ?_ ?_ | refine gM_split ?_ ?_ | refine condM_splitDN ?_ ?_ | refine condM_splitD ?_ ?_ | refine condM_splitN ?_ ?_ | refine condM_split ?_ ?_ | refine condM_any ?_ ?_ | intro _) | (simp [*]))
  all_goals first
    | exact inI64 (by omega) (by omega)
    | omega
    | (rw [if_pos (by omega)]; done)
    | (rw [if_neg (by omega)]; done)
end Go.Proofs.YtfpamehamllndaaGreatDoor
namespace Go.Proofs.YtfpamehamllndaaGreatDoor
open Go Go.Fi

end Go.Proofs.YtfpamehamllndaaGreatDoor

