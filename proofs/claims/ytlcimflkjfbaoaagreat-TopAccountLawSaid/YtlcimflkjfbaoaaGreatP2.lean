/- Contracts of functions for this claim: lemmas alone. -/
import Derived.Test.YtlcimflkjfbaoaaGreatPTypes
import Derived.Test.YtlcimflkjfbaoaaGreatLm
import Derived.Test.YtlcimflkjfbaoaaGreatLj
import Derived.Lib.LaidTab
import Derived.Lib.ItoaNum
set_option linter.unusedSimpArgs false
set_option linter.unusedVariables false
namespace Go.Proofs.YtlcimflkjfbaoaaGreat
open Go Go.Fi Go.RowKit
set_option maxRecDepth 20000

/-! ### what the package-level variables hold -/
instance : LaidW := ⟨fun _ => True, fun _ _ => trivial⟩

structure Acc where
  name : ByteArray
  kind : Int
  deriving Inhabited
structure Line where
  acc : ByteArray
  amt : Int
  deriving Inhabited
structure Entry where
  date : Int
  note : ByteArray
  lines : List Line
  deriving Inhabited
structure Book where
  accs : List Acc
  entries : List Entry
  closed : Int
  deriving Inhabited
structure Row where
  entry : Int
  amt : Int
  bal : Int
  deriving Inhabited
structure Item where
  entry : Int
  op : Int
  deriving Inhabited
structure Rule where
  owner : ByteArray
  driver : ByteArray
  office : ByteArray
  s0 : Int
  s1 : Int
  s2 : Int
  cash : ByteArray
  vouch : ByteArray
  deriving Inhabited
structure Trip where
  date : Int
  note : ByteArray
  fare : Int
  tip : Int
  voucher : Int
  deriving Inhabited
structure Compl where
  date : Int
  note : ByteArray
  paid : Int
  lo : Int
  hi : Int
  slack : Int
  deriving Inhabited

/-- hidden from simp -/
def Keep (p : Prop) : Prop := p
theorem keep {p : Prop} (h : p) : Keep p := h
theorem drop_nth {α : Type} [Inhabited α] (l : List α) (k : Nat) (h : k < l.length) : l.drop k = nth l k :: l.drop (k + 1) := by
  rw [List.drop_eq_getElem_cons h]; simp [nth, List.getD_eq_getElem?_getD, List.getElem?_eq_getElem h]
theorem take_succ_nth {α : Type} [Inhabited α] (l : List α) (k : Nat) (h : k < l.length) : l.take (k + 1) = l.take k ++ [nth l k] := by
  rw [List.take_succ_eq_append_getElem h]; simp [nth, List.getD_eq_getElem?_getD, List.getElem?_eq_getElem h]
theorem take_len {α : Type} (l : List α) (k : Nat) (h : k ≤ l.length) : (l.take k).length = k := by simp [Nat.min_eq_left h]
theorem flatMap_take {α : Type} (f : α → List PV) (s : Nat) (hf : ∀ x, (f x).length = s) : ∀ (l : List α) (k : Nat), (l.flatMap f).take (k * s) = (l.take k).flatMap f
  | [], k => by simp
  | x :: l, 0 => by simp
  | x :: l, k + 1 => by
    rw [List.take_succ_cons, List.flatMap_cons, List.flatMap_cons]
    have e : (k + 1) * s = (f x).length + k * s := by rw [hf, Nat.add_mul]; omega
    rw [e, List.take_length_add_append, flatMap_take f s hf l k]
theorem flatMap_drop2 {α : Type} (f : α → List PV) (s : Nat) (hf : ∀ x, (f x).length = s) : ∀ (l : List α) (k : Nat), (l.flatMap f).drop (k * s) = (l.drop k).flatMap f
  | [], k => by simp
  | x :: l, 0 => by simp
  | x :: l, k + 1 => by
    rw [List.drop_succ_cons, List.flatMap_cons]
    have e : (k + 1) * s = (f x).length + k * s := by rw [hf, Nat.add_mul]; omega
    rw [e, List.drop_length_add_append, flatMap_drop2 f s hf l k]

def ints (l : List Int) : List PV := l.map (.int .i64)
@[simp] theorem ints_len (l : List Int) : (ints l).length = l.length := by simp [ints]
@[simp] theorem ints_get (l : List Int) (k : Nat) (h : k < l.length) : nthP (ints l) k = .int .i64 (nth l k) := nthP_map _ l k h
@[simp] theorem ints_take (l : List Int) (k : Nat) : (ints l).take k = ints (l.take k) := by simp [ints, List.map_take]

def cAcc (a : Acc) : List PV := [.str a.name, .int .i64 a.kind]
def cAccs (l : List Acc) : List PV := l.flatMap cAcc
@[simp] theorem cAccs_len (l : List Acc) : (cAccs l).length = l.length * 2 := flatMap_len cAcc 2 (fun _ => rfl) l
@[simp] theorem cAccs_drop (l : List Acc) (k : Nat) (h : k < l.length) : ((cAccs l).drop (k * 2)).take 2 = cAcc (nth l k) := flatMap_drop cAcc 2 (fun _ => rfl) l k h
@[simp] theorem cAccs_0 (l : List Acc) (k : Nat) (h : k < l.length) : nthP (cAccs l) (k * 2) = .str (nth l k).name := flatMap_get cAcc 2 (fun _ => rfl) l k 0 h (by omega)
@[simp] theorem cAccs_1 (l : List Acc) (k : Nat) (h : k < l.length) : nthP (cAccs l) (k * 2 + 1) = .int .i64 (nth l k).kind := flatMap_get cAcc 2 (fun _ => rfl) l k 1 h (by omega)
@[simp] theorem cAccs_take (l : List Acc) (k : Nat) : (cAccs l).take (k * 2) = cAccs (l.take k) := flatMap_take cAcc 2 (fun _ => rfl) l k
def cLine (a : Line) : List PV := [.str a.acc, .int .i64 a.amt]
def cLines (l : List Line) : List PV := l.flatMap cLine
@[simp] theorem cLines_len (l : List Line) : (cLines l).length = l.length * 2 := flatMap_len cLine 2 (fun _ => rfl) l
@[simp] theorem cLines_drop (l : List Line) (k : Nat) (h : k < l.length) : ((cLines l).drop (k * 2)).take 2 = cLine (nth l k) := flatMap_drop cLine 2 (fun _ => rfl) l k h
@[simp] theorem cLines_0 (l : List Line) (k : Nat) (h : k < l.length) : nthP (cLines l) (k * 2) = .str (nth l k).acc := flatMap_get cLine 2 (fun _ => rfl) l k 0 h (by omega)
@[simp] theorem cLines_1 (l : List Line) (k : Nat) (h : k < l.length) : nthP (cLines l) (k * 2 + 1) = .int .i64 (nth l k).amt := flatMap_get cLine 2 (fun _ => rfl) l k 1 h (by omega)
@[simp] theorem cLines_take (l : List Line) (k : Nat) : (cLines l).take (k * 2) = cLines (l.take k) := flatMap_take cLine 2 (fun _ => rfl) l k
def cEntry (e : Entry) : List PV := [.int .i64 e.date, .str e.note, .sl e.lines.length (cLines e.lines)]
def cEntries (l : List Entry) : List PV := l.flatMap cEntry
@[simp] theorem cEntries_len (l : List Entry) : (cEntries l).length = l.length * 3 := flatMap_len cEntry 3 (fun _ => rfl) l
@[simp] theorem cEntries_drop (l : List Entry) (k : Nat) (h : k < l.length) : ((cEntries l).drop (k * 3)).take 3 = cEntry (nth l k) := flatMap_drop cEntry 3 (fun _ => rfl) l k h
@[simp] theorem cEntries_0 (l : List Entry) (k : Nat) (h : k < l.length) : nthP (cEntries l) (k * 3) = .int .i64 (nth l k).date := flatMap_get cEntry 3 (fun _ => rfl) l k 0 h (by omega)
@[simp] theorem cEntries_1 (l : List Entry) (k : Nat) (h : k < l.length) : nthP (cEntries l) (k * 3 + 1) = .str (nth l k).note := flatMap_get cEntry 3 (fun _ => rfl) l k 1 h (by omega)
@[simp] theorem cEntries_2 (l : List Entry) (k : Nat) (h : k < l.length) : nthP (cEntries l) (k * 3 + 2) = .sl (nth l k).lines.length (cLines (nth l k).lines) := flatMap_get cEntry 3 (fun _ => rfl) l k 2 h (by omega)
@[simp] theorem cEntries_take (l : List Entry) (k : Nat) : (cEntries l).take (k * 3) = cEntries (l.take k) := flatMap_take cEntry 3 (fun _ => rfl) l k
@[simp] theorem cEntries_drop2 (l : List Entry) (k : Nat) : (cEntries l).drop (k * 3) = cEntries (l.drop k) := flatMap_drop2 cEntry 3 (fun _ => rfl) l k
def cBook (b : Book) : List PV := [.sl b.accs.length (cAccs b.accs), .sl b.entries.length (cEntries b.entries), .int .i64 b.closed]
def cRule (r : Rule) : List PV := [.str r.owner, .str r.driver, .str r.office, .int .i64 r.s0, .int .i64 r.s1, .int .i64 r.s2, .str r.cash, .str r.vouch]
def cTrip (t : Trip) : List PV := [.int .i64 t.date, .str t.note, .int .i64 t.fare, .int .i64 t.tip, .int .i64 t.voucher]
def cCompl (c : Compl) : List PV := [.int .i64 c.date, .str c.note, .int .i64 c.paid, .int .i64 c.lo, .int .i64 c.hi, .int .i64 c.slack]
theorem mixed : Tryz.prog.follows .mixedOrders = true := by kernel_rfl
def errUnless (ok : Bool) (e : Int) : Int := if ok then 0 else e
@[simp] theorem eu_t (e : Int) : errUnless true e = 0 := rfl
@[simp] theorem eu_f (e : Int) : errUnless false e = e := rfl
theorem unless_c (ok : Bool) (e : Int) : RealCall Tryz.prog 27 [.bool ok, .int .i64 e] (.int .i64 (errUnless ok e)) true := by
  refine realcall_intro Tryz.func27 (by kernel_rfl) rfl (Nat.le_of_ble_eq_true (by kernel_rfl)) ?_
  simp only [Tryz.results27, Tryz.ntmps27]
  repeat' (first | (with_reducible first | refine awp_seq ?_ | refine awp_blockS ?_ | refine awp_blockC ?_ | refine awp_blockR ?_ | refine awp_skip ?_ | refine awp_ret ?_ | refine awp_exit ?_ | refine awp_region ?_ | refine awp_condM ?_ | refine And.intro ?_ ?_ | refine gE_splitN ?_ ?_ | refine gE_split ?_ ?_ | refine gQ_splitN ?_ ?_ | refine gQ_split ?_ ?_ | refine gM_splitN ?_ ?_ | refine gM_split ?_ ?_ | refine condM_splitDN ?_ ?_ | refine condM_splitD ?_ ?_ | refine condM_splitN ?_ ?_ | refine condM_split ?_ ?_ | refine condM_any ?_ ?_ | intro _) | (simp [*]))
  all_goals simp_all [errUnless]
def winB (n lo hi : Int) : Bool := decide (lo ≤ n) && decide (n ≤ hi)
theorem within_c (n lo hi : Int) : RealCall Tryz.prog 49 [.int .i64 n, .int .i64 lo, .int .i64 hi] (.bool (winB n lo hi)) true := by
  refine realcall_intro Tryz.func49 (by kernel_rfl) rfl (Nat.le_of_ble_eq_true (by kernel_rfl)) ?_
  simp only [Tryz.results49, Tryz.ntmps49]
  repeat' (first | (with_reducible first | refine awp_seq ?_ | refine awp_blockS ?_ | refine awp_blockC ?_ | refine awp_blockR ?_ | refine awp_skip ?_ | refine awp_ret ?_ | refine awp_exit ?_ | refine awp_region ?_ | refine awp_condM ?_ | refine And.intro ?_ ?_ | refine gE_splitN ?_ ?_ | refine gE_split ?_ ?_ | refine gQ_splitN ?_ ?_ | refine gQ_split ?_ ?_ | refine gM_splitN ?_ ?_ | refine gM_split ?_ ?_ | refine condM_splitDN ?_ ?_ | refine condM_splitD ?_ ?_ | refine condM_splitN ?_ ?_ | refine condM_split ?_ ?_ | refine condM_any ?_ ?_ | intro _) | (simp [*, winB]))
theorem rWithin_c (n lo hi : Int) : RealCall Tryz.prog 5 [.int .i64 n, .int .i64 lo, .int .i64 hi] (.bool (winB n lo hi)) true := by
  refine realcall_intro Tryz.func5 (by kernel_rfl) rfl (Nat.le_of_ble_eq_true (by kernel_rfl)) ?_
  simp only [Tryz.results5, Tryz.ntmps5]
  repeat' (first | (with_reducible first | refine awp_seq ?_ | refine awp_blockS ?_ | refine awp_blockC ?_ | refine awp_blockR ?_ | refine awp_skip ?_ | refine awp_ret ?_ | refine awp_exit ?_ | refine awp_region ?_ | refine awp_condM ?_ | refine And.intro ?_ ?_ | refine gE_splitN ?_ ?_ | refine gE_split ?_ ?_ | refine gQ_splitN ?_ ?_ | refine gQ_split ?_ ?_ | refine gM_splitN ?_ ?_ | refine gM_split ?_ ?_ | refine condM_splitDN ?_ ?_ | refine condM_splitD ?_ ?_ | refine condM_splitN ?_ ?_ | refine condM_split ?_ ?_ | refine condM_any ?_ ?_ | intro _) | (simp [*, winB]))
def firstS : List Int → Int
  | [] => 0
  | e :: r => if e = 0 then firstS r else e
theorem first_c (l : List Int) (h : l.length < 1000) : RealCall Tryz.prog 23 [.sl l.length (ints l)] (.int .i64 (firstS l)) true := by
  refine realcall_intro Tryz.func23 (by kernel_rfl) rfl (Nat.le_of_ble_eq_true (by kernel_rfl)) ?_
  simp only [Tryz.results23, Tryz.ntmps23]
  repeat' (first | (with_reducible first | refine awp_seq ?_ | refine awp_blockS ?_ | refine awp_blockC ?_ | refine awp_blockR ?_ | refine awp_skip ?_ | refine awp_ret ?_ | refine awp_exit ?_ | refine awp_region ?_ | refine awp_condM ?_ | refine And.intro ?_ ?_ | refine gE_splitN ?_ ?_ | refine gE_split ?_ ?_ | refine gQ_splitN ?_ ?_ | refine gQ_split ?_ ?_ | refine gM_splitN ?_ ?_ | refine gM_split ?_ ?_ | refine condM_splitDN ?_ ?_ | refine condM_splitD ?_ ?_ | refine condM_splitN ?_ ?_ | refine condM_split ?_ ?_ | refine condM_any ?_ ?_ | intro _) | (simp [*]))
  refine awp_for2 (fun k : Nat => k ≤ l.length ∧ firstS (l.drop k) = firstS l) [5, 6] (fun k => [(7, .w false false (.int .i64 k))]) (fun _ => []) (fun k => l.length - k)
    (fun _ : Unit => firstS l = 0) [] (fun _ => []) (fun _ => []) 0 ⟨Nat.zero_le _, rfl⟩ (by simp) (by simp) (fun k hk => ?_) (fun _ hf => ?_)
  · obtain ⟨hk, hf⟩ := hk
    repeat' (first | (with_reducible first | refine awp_seq ?_ | refine awp_blockS ?_ | refine awp_blockC ?_ | refine awp_blockR ?_ | refine awp_skip ?_ | refine awp_ret ?_ | refine awp_exit ?_ | refine awp_region ?_ | refine awp_condM ?_ | refine And.intro ?_ ?_ | refine gE_splitN ?_ ?_ | refine gE_split ?_ ?_ | refine gQ_splitN ?_ ?_ | refine gQ_split ?_ ?_ | refine gM_splitN ?_ ?_ | refine gM_split ?_ ?_ | refine condM_splitDN ?_ ?_ | refine condM_splitD ?_ ?_ | refine condM_splitN ?_ ?_ | refine condM_split ?_ ?_ | refine condM_any ?_ ?_ | intro _) | (simp [*, firstS]))
    all_goals first
      | exact inI64 (by omega) (by omega)
      | omega
      | (rw [← hf, drop_nth l k (by omega)]; simp_all [firstS]; done)
      | (refine loopK_normal _ _ _ _ _ (k + 1) _ ?_ (by first | omega | (dsimp only; omega) | (simp; omega)) ?_; (· refine ⟨by omega, ?_⟩; rw [← hf, drop_nth l k (by omega)]; simp_all [firstS]); (refine le_of ?_ ?_ <;> first | trivial | (simp [*]; done)))
      | (refine finW_intro () ?_ ?_; (· rw [← hf, List.drop_eq_nil_of_le (by omega)]; rfl); (refine le_of ?_ ?_ <;> first | trivial | (simp [*]; done)))
  · repeat' (first | (with_reducible first | refine awp_seq ?_ | refine awp_blockS ?_ | refine awp_blockC ?_ | refine awp_blockR ?_ | refine awp_skip ?_ | refine awp_ret ?_ | refine awp_exit ?_ | refine awp_region ?_ | refine awp_condM ?_ | refine And.intro ?_ ?_ | refine gE_splitN ?_ ?_ | refine gE_split ?_ ?_ | refine gQ_splitN ?_ ?_ | refine gQ_split ?_ ?_ | refine gM_splitN ?_ ?_ | refine gM_split ?_ ?_ | refine condM_splitDN ?_ ?_ | refine condM_splitD ?_ ?_ | refine condM_splitN ?_ ?_ | refine condM_split ?_ ?_ | refine condM_any ?_ ?_ | intro _) | (simp [*]))
theorem first2_c (a b : Int) : RealCall Tryz.prog 23 [.sl 2 [.int .i64 a, .int .i64 b]] (.int .i64 (firstS [a, b])) true := first_c [a, b] (Nat.le_of_ble_eq_true rfl)
theorem first3_c (a b c : Int) : RealCall Tryz.prog 23 [.sl 3 [.int .i64 a, .int .i64 b, .int .i64 c]] (.int .i64 (firstS [a, b, c])) true := first_c [a, b, c] (Nat.le_of_ble_eq_true rfl)
theorem first4_c (a b c d : Int) : RealCall Tryz.prog 23 [.sl 4 [.int .i64 a, .int .i64 b, .int .i64 c, .int .i64 d]] (.int .i64 (firstS [a, b, c, d])) true := first_c [a, b, c, d] (Nat.le_of_ble_eq_true rfl)
theorem first5_c (a b c d e : Int) : RealCall Tryz.prog 23 [.sl 5 [.int .i64 a, .int .i64 b, .int .i64 c, .int .i64 d, .int .i64 e]] (.int .i64 (firstS [a, b, c, d, e])) true := first_c [a, b, c, d, e] (Nat.le_of_ble_eq_true rfl)

/-! ### names -/
def letterB (c : Nat) : Bool := decide ((97 : Int) ≤ c) && decide ((c : Int) ≤ 122) || decide ((65 : Int) ≤ c) && decide ((c : Int) ≤ 90)
def okB (k c : Nat) : Bool := letterB c || !(decide (k = 0)) && (decide (c = 45) || decide ((48 : Int) ≤ c) && decide ((c : Int) ≤ 57))
def okUpto (s : ByteArray) : Nat → Bool
  | 0 => true
  | k + 1 => okUpto s k && okB k (byteAt s k)
theorem okUpto_false (s : ByteArray) (k : Nat) (h : okB k (byteAt s k) = false) : ∀ n, k < n → okUpto s n = false
  | 0, hn => by omega
  | n + 1, hn => by
    unfold okUpto
    by_cases e : k = n
    · subst e; simp [h]
    · rw [okUpto_false s k h n (by omega)]; rfl
def nameB (s : ByteArray) : Bool := okUpto s s.size && decide (s.size ≠ 0) && decide (s.size ≤ 12)
theorem nameB_no0 {s : ByteArray} (h : s.size = 0) : nameB s = false := by simp [nameB, h]
theorem nameB_yes {s : ByteArray} (h : okUpto s s.size = true) (h0 : s.size ≠ 0) : nameB s = decide (s.size ≤ 12) := by simp [nameB, h, h0]
set_option maxHeartbeats 4000000 in
theorem isName_c (s : ByteArray) (hs : s.size < 1000000) : RealCall Tryz.prog 50 [.str s] (.bool (nameB s)) true := by
  refine realcall_intro Tryz.func50 (by kernel_rfl) rfl (Nat.le_of_ble_eq_true (by kernel_rfl)) ?_
  simp only [Tryz.results50, Tryz.ntmps50]
  repeat' (first | (with_reducible first | refine awp_seq ?_ | refine awp_blockS ?_ | refine awp_blockC ?_ | refine awp_blockR ?_ | refine awp_skip ?_ | refine awp_ret ?_ | refine awp_exit ?_ | refine awp_region ?_ | refine awp_condM ?_ | refine And.intro ?_ ?_ | refine gE_splitN ?_ ?_ | refine gE_split ?_ ?_ | refine gQ_splitN ?_ ?_ | refine gQ_split ?_ ?_ | refine gM_splitN ?_ ?_ | refine gM_split ?_ ?_ | refine condM_splitDN ?_ ?_ | refine condM_splitD ?_ ?_ | refine condM_splitN ?_ ?_ | refine condM_split ?_ ?_ | refine condM_any ?_ ?_ | intro _) | (simp [*]))
  refine awp_for2 (fun k : Nat => k ≤ s.size ∧ okUpto s k = true) [0, 7, 8] (fun k => [(9, .w false false (.int .i64 k))]) (fun _ => []) (fun k => s.size - k)
    (fun _ : Unit => okUpto s s.size = true) [0] (fun _ => []) (fun _ => []) 0 ⟨Nat.zero_le _, rfl⟩ (by simp) (by simp) (fun k hk => ?_) (fun _ hf => ?_)
  · obtain ⟨hk, hf⟩ := hk
    repeat' (first | (with_reducible first | refine awp_seq ?_ | refine awp_blockS ?_ | refine awp_blockC ?_ | refine awp_blockR ?_ | refine awp_skip ?_ | refine awp_ret ?_ | refine awp_exit ?_ | refine awp_region ?_ | refine awp_condM ?_ | refine And.intro ?_ ?_ | refine gE_splitN ?_ ?_ | refine gE_split ?_ ?_ | refine gQ_splitN ?_ ?_ | refine gQ_split ?_ ?_ | refine gM_splitN ?_ ?_ | refine gM_split ?_ ?_ | refine condM_splitDN ?_ ?_ | refine condM_splitD ?_ ?_ | refine condM_splitN ?_ ?_ | refine condM_split ?_ ?_ | refine condM_any ?_ ?_ | intro _) | (simp [*]))
    all_goals first
      | exact inI64 (by omega) (by omega)
      | omega
      | (refine loopK_normal _ _ _ _ _ (k + 1) _ ?_ (by first | omega | (dsimp only; omega) | (simp; omega)) ?_; (· refine ⟨by omega, ?_⟩; unfold okUpto; rw [hf]; clear hf; simp [okB, letterB] at *; omega); (refine le_of ?_ ?_ <;> first | trivial | (simp [*]; done)))
      | (refine finW_intro () ?_ ?_; (· rw [show s.size = k by omega]; exact hf); (refine le_of ?_ ?_ <;> first | trivial | (simp [*]; done)))
      | (unfold nameB; rw [okUpto_false s k (by clear hf; simp [okB, letterB] at *; omega) s.size (by omega)]; rfl)
  · repeat' (first | (with_reducible first | refine awp_seq ?_ | refine awp_blockS ?_ | refine awp_blockC ?_ | refine awp_blockR ?_ | refine awp_skip ?_ | refine awp_ret ?_ | refine awp_exit ?_ | refine awp_region ?_ | refine awp_condM ?_ | refine And.intro ?_ ?_ | refine gE_splitN ?_ ?_ | refine gE_split ?_ ?_ | refine gQ_splitN ?_ ?_ | refine gQ_split ?_ ?_ | refine gM_splitN ?_ ?_ | refine gM_split ?_ ?_ | refine condM_splitDN ?_ ?_ | refine condM_splitD ?_ ?_ | refine condM_splitN ?_ ?_ | refine condM_split ?_ ?_ | refine condM_any ?_ ?_ | intro _) | (simp [*]))
    · rename_i h0
      have h0' : s ≠ { data := #[] } := by simpa using h0
      rw [nameB_yes hf (fun h => h0' ((str_empty s).2 h))]; simp; omega
    · rename_i h0; rw [nameB_no0 ((str_empty s).1 (by have h1 : s = { data := #[] } := by simpa using h0
                                                      exact h1))]
end Go.Proofs.YtlcimflkjfbaoaaGreat

