/- Contracts of functions for this claim: lemmas alone. -/
import Derived.Test.YtgoemokfpfnlkaaP22
import Derived.Test.YtgoemokfpfnlkaaLm
set_option linter.unusedSimpArgs false
set_option linter.unusedVariables false
namespace Go.Proofs.Ytgoemokfpfnlkaa
open Go Go.Fi
set_option maxRecDepth 20000

structure Rec where
  driver : ByteArray
  frm : Int
  to : Int
  deriving Inhabited
structure Rul where
  brk : Int
  rest : Int
  stint : Int
  shift : Int
  week : Int
def cRec (r : Rec) : List PV := [.str r.driver, .int .i64 r.frm, .int .i64 r.to]
attribute [simp] cRec
def cRecs (l : List Rec) : List PV := l.flatMap cRec
@[simp] theorem cRecs_len (l : List Rec) : (cRecs l).length = l.length * 3 := flatMap_len cRec 3 (fun _ => rfl) l
@[simp] theorem cRecs_drop (l : List Rec) (k : Nat) (h : k < l.length) : ((cRecs l).drop (k * 3)).take 3 = cRec (nth l k) := flatMap_drop cRec 3 (fun _ => rfl) l k h
@[simp] theorem cRecs_0 (l : List Rec) (k : Nat) (h : k < l.length) : nthP (cRecs l) (k * 3) = .str (nth l k).driver := flatMap_get cRec 3 (fun _ => rfl) l k 0 h (by omega)
@[simp] theorem cRecs_1 (l : List Rec) (k : Nat) (h : k < l.length) : nthP (cRecs l) (k * 3 + 1) = .int .i64 (nth l k).frm := flatMap_get cRec 3 (fun _ => rfl) l k 1 h (by omega)
@[simp] theorem cRecs_2 (l : List Rec) (k : Nat) (h : k < l.length) : nthP (cRecs l) (k * 3 + 2) = .int .i64 (nth l k).to := flatMap_get cRec 3 (fun _ => rfl) l k 2 h (by omega)
def cRul (r : Rul) : List PV := [.int .i64 r.brk, .int .i64 r.rest, .int .i64 r.stint, .int .i64 r.shift, .int .i64 r.week]

theorem dWithin_c (n lo hi : Int) : RealCall Try.prog 45 [.int .i64 n, .int .i64 lo, .int .i64 hi] (.bool (winB n lo hi)) true := by
  refine realcall_intro Try.func45 (by kernel_rfl) rfl (Nat.le_of_ble_eq_true (by kernel_rfl)) ?_
  simp only [Try.results45, Try.ntmps45]
  repeat' (first | (with_reducible first | refine awp_seq ?_ | refine awp_blockS ?_ | refine awp_blockC ?_ | refine awp_blockR ?_ | refine awp_skip ?_ | refine awp_ret ?_ | refine awp_exit ?_ | refine awp_region ?_ | refine awp_condM ?_ | refine And.intro ?_ ?_ | refine gE_splitN ?_ ?_ | refine gE_split ?_ ?_ | refine gQ_splitN ?_ ?_ | refine gQ_split ?_ ?_ | refine gM_splitN ?_ ?_ | refine gM_split ?_ ?_ | refine condM_splitDN ?_ ?_ | refine condM_splitD ?_ ?_ | refine condM_splitN ?_ ?_ | refine condM_split ?_ ?_ | refine condM_any ?_ ?_ | intro _) | (simp [*, winB]))
theorem dUnless_c (ok : Bool) (e : Int) : RealCall Try.prog 47 [.bool ok, .int .i64 e] (.int .i64 (errUnless ok e)) true := by
  refine realcall_intro Try.func47 (by kernel_rfl) rfl (Nat.le_of_ble_eq_true (by kernel_rfl)) ?_
  simp only [Try.results47, Try.ntmps47]
  repeat' (first | (with_reducible first | refine awp_seq ?_ | refine awp_blockS ?_ | refine awp_blockC ?_ | refine awp_blockR ?_ | refine awp_skip ?_ | refine awp_ret ?_ | refine awp_exit ?_ | refine awp_region ?_ | refine awp_condM ?_ | refine And.intro ?_ ?_ | refine gE_splitN ?_ ?_ | refine gE_split ?_ ?_ | refine gQ_splitN ?_ ?_ | refine gQ_split ?_ ?_ | refine gM_splitN ?_ ?_ | refine gM_split ?_ ?_ | refine condM_splitDN ?_ ?_ | refine condM_splitD ?_ ?_ | refine condM_splitN ?_ ?_ | refine condM_split ?_ ?_ | refine condM_any ?_ ?_ | intro _) | (simp [*]))
  all_goals simp_all [errUnless]
theorem dFirst_c (l : List Int) (hl : l.length ≤ 100) : RealCall Try.prog 46 [.sl l.length (ints l)] (.int .i64 (firstS l)) true := by
  refine realcall_intro Try.func46 (by kernel_rfl) rfl (Nat.le_of_ble_eq_true (by kernel_rfl)) ?_
  simp only [Try.results46, Try.ntmps46]
  repeat' (first | (with_reducible first | refine awp_seq ?_ | refine awp_blockS ?_ | refine awp_blockC ?_ | refine awp_blockR ?_ | refine awp_skip ?_ | refine awp_ret ?_ | refine awp_exit ?_ | refine awp_region ?_ | refine awp_condM ?_ | refine And.intro ?_ ?_ | refine gE_splitN ?_ ?_ | refine gE_split ?_ ?_ | refine gQ_splitN ?_ ?_ | refine gQ_split ?_ ?_ | refine gM_splitN ?_ ?_ | refine gM_split ?_ ?_ | refine condM_splitDN ?_ ?_ | refine condM_splitD ?_ ?_ | refine condM_splitN ?_ ?_ | refine condM_split ?_ ?_ | refine condM_any ?_ ?_ | intro _) | (simp [*]))
  refine awp_for3 (fun (k : Nat) => k ≤ l.length ∧ firstS (l.drop k) = firstS l) [5, 6] (fun (k : Nat) => [(7, .w false false (.int .i64 k))]) [] (fun (k : Nat) => []) (fun (k : Nat) => l.length - k) (fun (_u : Unit) => firstS l = 0) [] (fun (_u : Unit) => []) [] (fun (_u : Unit) => []) (0) ⟨Nat.zero_le _, rfl⟩ (by simp) (by simp) (fun k hk => ?_) (fun _u hf => ?_)
  · obtain ⟨hk, hf⟩ := hk
    repeat' (first | (with_reducible first | refine awp_seq ?_ | refine awp_blockS ?_ | refine awp_blockC ?_ | refine awp_blockR ?_ | refine awp_skip ?_ | refine awp_ret ?_ | refine awp_exit ?_ | refine awp_region ?_ | refine awp_condM ?_ | refine And.intro ?_ ?_ | refine gE_splitN ?_ ?_ | refine gE_split ?_ ?_ | refine gQ_splitN ?_ ?_ | refine gQ_split ?_ ?_ | refine gM_splitN ?_ ?_ | refine gM_split ?_ ?_ | refine condM_splitDN ?_ ?_ | refine condM_splitD ?_ ?_ | refine condM_splitN ?_ ?_ | refine condM_split ?_ ?_ | refine condM_any ?_ ?_ | intro _) | (simp [*]))
    all_goals first
      | exact inI64 (by omega) (by omega)
      | omega
      | (rw [← hf, drop_nth l k (by omega)]; simp_all [firstS]; done)
      | (refine loopK_normal _ _ _ _ _ (k + 1) _ ?_ (by first | omega | (dsimp only; omega) | (simp; omega)) ?_; (· refine ⟨by omega, ?_⟩; rw [← hf, drop_nth l k (by omega)]; simp_all [firstS]); (refine le_of ?_ ?_ <;> first | trivial | (simp [*]; done)))
      | (refine finW_intro () ?_ ?_; (· rw [← hf, List.drop_eq_nil_of_le (by omega)]; rfl); (refine le_of ?_ ?_ <;> first | trivial | (simp [*]; done)))
  · repeat' (first | (with_reducible first | refine awp_seq ?_ | refine awp_blockS ?_ | refine awp_blockC ?_ | refine awp_blockR ?_ | refine awp_skip ?_ | refine awp_ret ?_ | refine awp_exit ?_ | refine awp_region ?_ | refine awp_condM ?_ | refine And.intro ?_ ?_ | refine gE_splitN ?_ ?_ | refine gE_split ?_ ?_ | refine gQ_splitN ?_ ?_ | refine gQ_split ?_ ?_ | refine gM_splitN ?_ ?_ | refine gM_split ?_ ?_ | refine condM_splitDN ?_ ?_ | refine condM_splitD ?_ ?_ | refine condM_splitN ?_ ?_ | refine condM_split ?_ ?_ | refine condM_any ?_ ?_ | intro _) | (simp [*]))
theorem dFirst2_c (a b : Int) : RealCall Try.prog 46 [.sl 2 [.int .i64 a, .int .i64 b]] (.int .i64 (firstS [a, b])) true := dFirst_c [a, b] (Nat.le_of_ble_eq_true rfl)
theorem dFirst3_c (a b c : Int) : RealCall Try.prog 46 [.sl 3 [.int .i64 a, .int .i64 b, .int .i64 c]] (.int .i64 (firstS [a, b, c])) true := dFirst_c [a, b, c] (Nat.le_of_ble_eq_true rfl)
theorem dFirst6_c (a b c d e f : Int) : RealCall Try.prog 46 [.sl 6 [.int .i64 a, .int .i64 b, .int .i64 c, .int .i64 d, .int .i64 e, .int .i64 f]] (.int .i64 (firstS [a, b, c, d, e, f])) true := dFirst_c [a, b, c, d, e, f] (Nat.le_of_ble_eq_true rfl)
theorem isTime_c (n : Int) : RealCall Try.prog 48 [.int .i64 n] (.bool (winB n 0 8640000000)) true := by
  refine realcall_intro Try.func48 (by kernel_rfl) rfl (Nat.le_of_ble_eq_true (by kernel_rfl)) ?_
  simp only [Try.results48, Try.ntmps48]
  repeat' (first | (with_reducible first | refine awp_seq ?_ | refine awp_blockS ?_ | refine awp_blockC ?_ | refine awp_blockR ?_ | refine awp_skip ?_ | refine awp_ret ?_ | refine awp_exit ?_ | refine awp_region ?_ | refine awp_condM ?_ | refine And.intro ?_ ?_ | refine gE_splitN ?_ ?_ | refine gE_split ?_ ?_ | refine gQ_splitN ?_ ?_ | refine gQ_split ?_ ?_ | refine gM_splitN ?_ ?_ | refine gM_split ?_ ?_ | refine condM_splitDN ?_ ?_ | refine condM_splitD ?_ ?_ | refine condM_splitN ?_ ?_ | refine condM_split ?_ ?_ | refine condM_any ?_ ?_ | refine cw (dWithin_c _ _ _) ?_ | intro _) | (simp [*]))
theorem dTimeErr_c (n : Int) : RealCall Try.prog 85 [.int .i64 n] (.int .i64 (errUnless (winB n 0 8640000000) 2)) true := by
  refine realcall_intro Try.func85 (by kernel_rfl) rfl (Nat.le_of_ble_eq_true (by kernel_rfl)) ?_
  simp only [Try.results85, Try.ntmps85]
  repeat' (first | (with_reducible first | refine awp_seq ?_ | refine awp_blockS ?_ | refine awp_blockC ?_ | refine awp_blockR ?_ | refine awp_skip ?_ | refine awp_ret ?_ | refine awp_exit ?_ | refine awp_region ?_ | refine awp_condM ?_ | refine And.intro ?_ ?_ | refine gE_splitN ?_ ?_ | refine gE_split ?_ ?_ | refine gQ_splitN ?_ ?_ | refine gQ_split ?_ ?_ | refine gM_splitN ?_ ?_ | refine gM_split ?_ ?_ | refine condM_splitDN ?_ ?_ | refine condM_splitD ?_ ?_ | refine condM_splitN ?_ ?_ | refine condM_split ?_ ?_ | refine condM_any ?_ ?_ | refine cw (isTime_c _) ?_ | refine cw (dUnless_c _ _) ?_ | intro _) | (simp [*]))
theorem spanErr_c (a b : Int) : RealCall Try.prog 83 [.int .i64 a, .int .i64 b] (.int .i64 (firstS [errUnless (winB a 0 8640000000) 2, errUnless (winB b 0 8640000000) 2, errUnless (decide (a < b)) 9])) true := by
  refine realcall_intro Try.func83 (by kernel_rfl) rfl (Nat.le_of_ble_eq_true (by kernel_rfl)) ?_
  simp only [Try.results83, Try.ntmps83]
  repeat' (first | (with_reducible first | refine awp_seq ?_ | refine awp_blockS ?_ | refine awp_blockC ?_ | refine awp_blockR ?_ | refine awp_skip ?_ | refine awp_ret ?_ | refine awp_exit ?_ | refine awp_region ?_ | refine awp_condM ?_ | refine And.intro ?_ ?_ | refine gE_splitN ?_ ?_ | refine gE_split ?_ ?_ | refine gQ_splitN ?_ ?_ | refine gQ_split ?_ ?_ | refine gM_splitN ?_ ?_ | refine gM_split ?_ ?_ | refine condM_splitDN ?_ ?_ | refine condM_splitD ?_ ?_ | refine condM_splitN ?_ ?_ | refine condM_split ?_ ?_ | refine condM_any ?_ ?_ | refine cw (dTimeErr_c _) ?_ | refine cw (dUnless_c _ _) ?_ | refine cw (dFirst3_c _ _ _) ?_ | intro _) | (simp [*]))
set_option maxHeartbeats 4000000 in
theorem dIsName_c (s : ByteArray) (hs : s.size < 1000000) : RealCall Try.prog 84 [.str s] (.bool (nameB s)) true := by
  refine realcall_intro Try.func84 (by kernel_rfl) rfl (Nat.le_of_ble_eq_true (by kernel_rfl)) ?_
  simp only [Try.results84, Try.ntmps84]
  repeat' (first | (with_reducible first | refine awp_seq ?_ | refine awp_blockS ?_ | refine awp_blockC ?_ | refine awp_blockR ?_ | refine awp_skip ?_ | refine awp_ret ?_ | refine awp_exit ?_ | refine awp_region ?_ | refine awp_condM ?_ | refine And.intro ?_ ?_ | refine gE_splitN ?_ ?_ | refine gE_split ?_ ?_ | refine gQ_splitN ?_ ?_ | refine gQ_split ?_ ?_ | refine gM_splitN ?_ ?_ | refine gM_split ?_ ?_ | refine condM_splitDN ?_ ?_ | refine condM_splitD ?_ ?_ | refine condM_splitN ?_ ?_ | refine condM_split ?_ ?_ | refine condM_any ?_ ?_ | intro _) | (simp [*]))
  refine awp_for3 (fun (k : Nat) => k ≤ s.size ∧ okUpto s k = true) [0, 7, 8] (fun (k : Nat) => [(9, .w false false (.int .i64 k))]) [] (fun (k : Nat) => []) (fun (k : Nat) => s.size - k) (fun (_u : Unit) => okUpto s s.size = true) [0] (fun (_u : Unit) => []) [] (fun (_u : Unit) => []) (0) ⟨Nat.zero_le _, rfl⟩ (by simp) (by simp) (fun k hk => ?_) (fun _u hf => ?_)
  · obtain ⟨hk, hf⟩ := hk
    repeat' (first | (with_reducible first | refine awp_seq ?_ | refine awp_blockS ?_ | refine awp_blockC ?_ | refine awp_blockR ?_ | refine awp_skip ?_ | refine awp_ret ?_ | refine awp_exit ?_ | refine awp_region ?_ | refine awp_condM ?_ | refine And.intro ?_ ?_ | refine gE_splitN ?_ ?_ | refine gE_split ?_ ?_ | refine gQ_splitN ?_ ?_ | refine gQ_split ?_ ?_ | refine gM_splitN ?_ ?_ | refine gM_split ?_ ?_ | refine condM_splitDN ?_ ?_ | refine condM_splitD ?_ ?_ | refine condM_splitN ?_ ?_ | refine condM_split ?_ ?_ | refine condM_any ?_ ?_ | intro _) | (simp [*]))
    all_goals first
      | exact inI64 (by omega) (by omega)
      | omega
      | (refine loopK_normal _ _ _ _ _ (k + 1) _ ?_ (by first | omega | (dsimp only; omega) | (simp; omega)) ?_; (· refine ⟨by omega, ?_⟩; unfold okUpto; rw [hf]; clear hf; simp [okB, letterB] at *; omega); (refine le_of ?_ ?_ <;> first | trivial | (simp [*]; done)))
      | (refine finW_intro () ?_ ?_; (· rw [show s.size = k by omega]; exact hf); (refine le_of ?_ ?_ <;> first | trivial | (simp [*]; done)))
      | (unfold nameB; rw [okUpto_false s k (by clear hf; simp [okB, letterB] at *; omega) s.size (by omega)]; rfl)
  · repeat' (first | (with_reducible first | refine awp_seq ?_ | refine awp_blockS ?_ | refine awp_blockC ?_ | refine awp_blockR ?_ | refine awp_skip ?_ | refine awp_ret ?_ | refine awp_exit ?_ | refine awp_region ?_ | refine awp_condM ?_ | refine And.intro ?_ ?_ | refine gE_splitN ?_ ?_ | refine gE_split ?_ ?_ | refine gQ_splitN ?_ ?_ | refine gQ_split ?_ ?_ | refine gM_splitN ?_ ?_ | refine gM_split ?_ ?_ | refine condM_splitDN ?_ ?_ | refine condM_splitD ?_ ?_ | refine condM_splitN ?_ ?_ | refine condM_split ?_ ?_ | refine condM_any ?_ ?_ | intro _) | (simp [*]))
    · rename_i h0
      have h0' : s ≠ { data := #[] } := by simpa using h0
      rw [nameB_yes hf (fun h => h0' ((str_empty s).2 h))]; simp; omega
    · rename_i h0; rw [nameB_no0 ((str_empty s).1 (by have h1 : s = { data := #[] } := by simpa using h0
                                                      exact h1))]
theorem dNameErr_c (s : ByteArray) (hs : s.size < 1000000) : RealCall Try.prog 82 [.str s] (.int .i64 (errUnless (nameB s) 4)) true := by
  have h1 := dIsName_c s hs
  refine realcall_intro Try.func82 (by kernel_rfl) rfl (Nat.le_of_ble_eq_true (by kernel_rfl)) ?_
  simp only [Try.results82, Try.ntmps82]
  repeat' (first | (with_reducible first | refine awp_seq ?_ | refine awp_blockS ?_ | refine awp_blockC ?_ | refine awp_blockR ?_ | refine awp_skip ?_ | refine awp_ret ?_ | refine awp_exit ?_ | refine awp_region ?_ | refine awp_condM ?_ | refine And.intro ?_ ?_ | refine gE_splitN ?_ ?_ | refine gE_split ?_ ?_ | refine gQ_splitN ?_ ?_ | refine gQ_split ?_ ?_ | refine gM_splitN ?_ ?_ | refine gM_split ?_ ?_ | refine condM_splitDN ?_ ?_ | refine condM_splitD ?_ ?_ | refine condM_splitN ?_ ?_ | refine condM_split ?_ ?_ | refine condM_any ?_ ?_ | refine cw (h1) ?_ | refine cw (dUnless_c _ _) ?_ | intro _) | (simp [*]))
def recE (x : Rec) : Int := firstS [errUnless (nameB x.driver) 4, firstS [errUnless (winB x.frm 0 8640000000) 2, errUnless (winB x.to 0 8640000000) 2, errUnless (decide (x.frm < x.to)) 9]]
theorem recordErr_c (x : Rec) (hs : x.driver.size < 1000000) : RealCall Try.prog 81 [.agg (cRec x)] (.int .i64 (recE x)) true := by
  have h1 := dNameErr_c x.driver hs
  unfold recE
  refine realcall_intro Try.func81 (by kernel_rfl) rfl (Nat.le_of_ble_eq_true (by kernel_rfl)) ?_
  simp only [Try.results81, Try.ntmps81]
  repeat' (first | (with_reducible first | refine awp_seq ?_ | refine awp_blockS ?_ | refine awp_blockC ?_ | refine awp_blockR ?_ | refine awp_skip ?_ | refine awp_ret ?_ | refine awp_exit ?_ | refine awp_region ?_ | refine awp_regionD (id := 1) 11 mixed (by decide +kernel) ?_ | refine awp_condM ?_ | refine And.intro ?_ ?_ | refine gE_splitN ?_ ?_ | refine gE_split ?_ ?_ | refine gQ_splitN ?_ ?_ | refine gQ_split ?_ ?_ | refine gM_splitN ?_ ?_ | refine gM_split ?_ ?_ | refine condM_splitDN ?_ ?_ | refine condM_splitD ?_ ?_ | refine condM_splitN ?_ ?_ | refine condM_split ?_ ?_ | refine condM_any ?_ ?_ | refine cw (h1) ?_ | refine cw (spanErr_c _ _) ?_ | refine cw (dFirst2_c _ _) ?_ | intro _) | (simp [*]))
/-- records that are right -/
structure RecsOk (l : List Rec) : Prop where
  len : l.length < 40
  sz : ∀ k, k < l.length → (nth l k).driver.size < 1000000
  one : ∀ k, k < l.length → recE (nth l k) = 0
  drv : ∀ k, 0 < k → k < l.length → (nth l k).driver = (nth l (k - 1)).driver
  ord : ∀ k, 0 < k → k < l.length → (nth l (k - 1)).to ≤ (nth l k).frm
  bd : ∀ k, k < l.length → 0 ≤ (nth l k).frm ∧ (nth l k).frm < (nth l k).to ∧ (nth l k).to ≤ 8640000000
set_option maxHeartbeats 4000000 in
theorem checkRec1_c (l : List Rec) (h : RecsOk l) (k : Nat) (hk : k < l.length) : RealCall Try.prog 80 [.int .i64 k, .agg (cRec (nth l k)), .ip [.sl l.length (cRecs l)] 0] (.int .i64 0) true := by
  have hlen := h.len
  have c1 := recordErr_c (nth l k) (h.sz k hk)
  rw [h.one k hk] at c1
  simp only [cRec] at c1
  cases k with
  | zero =>
    clear h
    refine realcall_intro Try.func80 (by kernel_rfl) rfl (Nat.le_of_ble_eq_true (by kernel_rfl)) ?_
    simp only [Try.results80, Try.ntmps80]
    repeat' (first | (with_reducible first | refine awp_seq ?_ | refine awp_blockS ?_ | refine awp_blockC ?_ | refine awp_blockR ?_ | refine awp_skip ?_ | refine awp_ret ?_ | refine awp_exit ?_ | refine awp_region ?_ | refine awp_regionD (id := 3) 23 mixed (by decide +kernel) ?_ | refine awp_condM ?_ | refine And.intro ?_ ?_ | refine gE_splitN ?_ ?_ | refine gE_split ?_ ?_ | refine gQ_splitN ?_ ?_ | refine gQ_split ?_ ?_ | refine gM_splitN ?_ ?_ | refine gM_split ?_ ?_ | refine condM_splitDN ?_ ?_ | refine condM_splitD ?_ ?_ | refine condM_splitN ?_ ?_ | refine condM_split ?_ ?_ | refine condM_any ?_ ?_ | refine cw (c1) ?_ | intro _) | (simp [*, hk]))
  | succ k =>
    have e1 := h.drv (k + 1) (by omega) hk
    have e2 := h.ord (k + 1) (by omega) hk
    have hk' : k < l.length := by omega
    have hkI : ((k + 1 : Nat) : Int) - 1 = (k : Int) := by omega
    have cf : RealCall Try.prog 46 [.sl 3 [.int .i64 0, .int .i64 0, .int .i64 0]] (.int .i64 0) true := dFirst3_c 0 0 0
    have cu : ∀ e : Int, RealCall Try.prog 47 [.bool true, .int .i64 e] (.int .i64 0) true := fun e => dUnless_c true e
    rw [Nat.add_sub_cancel] at e1 e2
    rw [e1] at c1
    clear h
    refine realcall_intro Try.func80 (by kernel_rfl) rfl (Nat.le_of_ble_eq_true (by kernel_rfl)) ?_
    simp only [Try.results80, Try.ntmps80]
    repeat' (first | (with_reducible first | refine awp_seq ?_ | refine awp_blockS ?_ | refine awp_blockC ?_ | refine awp_blockR ?_ | refine awp_skip ?_ | refine awp_ret ?_ | refine awp_exit ?_ | refine awp_region ?_ | refine awp_regionD (id := 3) 23 mixed (by decide +kernel) ?_ | refine awp_condM ?_ | refine And.intro ?_ ?_ | apply gQ_merge | apply gE_merge | exact EqV_w | exact EqE_w | exact EqV_ptr | exact EqE_ptr | exact EqV_msl | exact EqE_msl | exact EqV_agg | exact EqE_agg | exact EqV_fn | exact EqE_fn | exact EqV_gd | exact EqE_gd | refine gM_splitN ?_ ?_ | refine gM_split ?_ ?_ |  refine condM_splitDN ?_ ?_ | refine condM_splitD ?_ ?_ | refine condM_splitN ?_ ?_ | refine condM_split ?_ ?_ | refine condM_any ?_ ?_ | refine cw (c1) ?_ | refine cw (cu _) ?_ | refine cw (cf) ?_ | intro _) | (simp [*, hk, hk', hkI, e1, e2]) | (refine cw_eq (c1) ?_ ?_; (· (simp [*]; done))) | (refine cw_eq (cu _) ?_ ?_; (· (simp [*]; done))) | (refine cw_eq (cf) ?_ ?_; (· (simp [*]; done))))
    all_goals first | exact inI64 (by omega) (by omega) | omega
set_option maxHeartbeats 4000000 in
theorem check_c (l : List Rec) (h : RecsOk l) : RealCall Try.prog 79 [.sl l.length (cRecs l), .int .i64 40, .fn 80 [.ip [.sl l.length (cRecs l)] 0]] (.tup [.int .i64 0, .int .i64 0]) true := by
  have hlen := h.len
  have kc := keep (fun k hk => checkRec1_c l h k hk)
  clear h
  have hlI : ¬ (40 : Int) < (l.length : Int) := by omega
  refine realcall_intro Try.func79 (by kernel_rfl) rfl (Nat.le_of_ble_eq_true (by kernel_rfl)) ?_
  simp only [Try.results79, Try.ntmps79]
  repeat' (first | (with_reducible first | refine awp_seq ?_ | refine awp_blockS ?_ | refine awp_blockC ?_ | refine awp_blockR ?_ | refine awp_skip ?_ | refine awp_ret ?_ | refine awp_exit ?_ | refine awp_region ?_ | refine awp_condM ?_ | refine And.intro ?_ ?_ | apply gQ_merge | apply gE_merge | exact EqV_w | exact EqE_w | exact EqV_ptr | exact EqE_ptr | exact EqV_msl | exact EqE_msl | exact EqV_agg | exact EqE_agg | exact EqV_fn | exact EqE_fn | exact EqV_gd | exact EqE_gd | refine gM_splitN ?_ ?_ | refine gM_split ?_ ?_ |  refine condM_splitDN ?_ ?_ | refine condM_splitD ?_ ?_ | refine condM_splitN ?_ ?_ | refine condM_split ?_ ?_ | refine condM_any ?_ ?_ | intro _) | (simp [*, hlI]))
  refine awp_for3 (fun (k : Nat) => k ≤ l.length) [2, 15, 16] (fun (k : Nat) => [(17, .w false false (.int .i64 k))]) [] (fun (k : Nat) => []) (fun (k : Nat) => l.length - k) (fun (_u : Unit) => True) [] (fun (_u : Unit) => []) [] (fun (_u : Unit) => []) (0) (Nat.zero_le _) (by simp) (by simp) (fun k hk => ?_) (fun _u hf => ?_)
  · by_cases hlt : k < l.length
    · have c1 := kc k hlt
      simp only [cRec] at c1
      repeat' (first | (with_reducible first | refine awp_seq ?_ | refine awp_blockS ?_ | refine awp_blockC ?_ | refine awp_blockR ?_ | refine awp_skip ?_ | refine awp_ret ?_ | refine awp_exit ?_ | refine awp_region ?_ | refine awp_condM ?_ | refine And.intro ?_ ?_ | apply gQ_merge | apply gE_merge | exact EqV_w | exact EqE_w | exact EqV_ptr | exact EqE_ptr | exact EqV_msl | exact EqE_msl | exact EqV_agg | exact EqE_agg | exact EqV_fn | exact EqE_fn | exact EqV_gd | exact EqE_gd | refine gM_splitN ?_ ?_ | refine gM_split ?_ ?_ |  refine condM_splitDN ?_ ?_ | refine condM_splitD ?_ ?_ | refine condM_splitN ?_ ?_ | refine condM_split ?_ ?_ | refine condM_any ?_ ?_ | refine cw (c1) ?_ | intro _) | (simp [*, hlt]) | (refine cw_eq (c1) ?_ ?_; (· (simp [*]; done))))
      all_goals first
        | exact inI64 (by omega) (by omega)
        | omega
        | (refine loopK_normal _ _ _ _ _ (k + 1) _ ?_ (by first | omega | (dsimp only; omega) | (simp; omega)) ?_; (· omega); (refine le_of ?_ ?_ <;> first | trivial | (simp [*]; done)))
        | skip
    · have hke : k = l.length := by omega
      subst hke
      repeat' (first | (with_reducible first | refine awp_seq ?_ | refine awp_blockS ?_ | refine awp_blockC ?_ | refine awp_blockR ?_ | refine awp_skip ?_ | refine awp_ret ?_ | refine awp_exit ?_ | refine awp_region ?_ | refine awp_condM ?_ | refine And.intro ?_ ?_ | apply gQ_merge | apply gE_merge | exact EqV_w | exact EqE_w | exact EqV_ptr | exact EqE_ptr | exact EqV_msl | exact EqE_msl | exact EqV_agg | exact EqE_agg | exact EqV_fn | exact EqE_fn | exact EqV_gd | exact EqE_gd | refine gM_splitN ?_ ?_ | refine gM_split ?_ ?_ |  refine condM_splitDN ?_ ?_ | refine condM_splitD ?_ ?_ | refine condM_splitN ?_ ?_ | refine condM_split ?_ ?_ | refine condM_any ?_ ?_ | intro _) | (simp [*]))
      all_goals (refine finW_intro () ?_ ?_; (· trivial); (refine le_of ?_ ?_ <;> first | trivial | (simp [*]; done)))
  · repeat' (first | (with_reducible first | refine awp_seq ?_ | refine awp_blockS ?_ | refine awp_blockC ?_ | refine awp_blockR ?_ | refine awp_skip ?_ | refine awp_ret ?_ | refine awp_exit ?_ | refine awp_region ?_ | refine awp_condM ?_ | refine And.intro ?_ ?_ | apply gQ_merge | apply gE_merge | exact EqV_w | exact EqE_w | exact EqV_ptr | exact EqE_ptr | exact EqV_msl | exact EqE_msl | exact EqV_agg | exact EqE_agg | exact EqV_fn | exact EqE_fn | exact EqV_gd | exact EqE_gd | refine gM_splitN ?_ ?_ | refine gM_split ?_ ?_ |  refine condM_splitDN ?_ ?_ | refine condM_splitD ?_ ?_ | refine condM_splitN ?_ ?_ | refine condM_split ?_ ?_ | refine condM_any ?_ ?_ | intro _) | (simp [*]))
theorem checkRecs_c (l : List Rec) (h : RecsOk l) : RealCall Try.prog 74 [.sl l.length (cRecs l)] (.tup [.int .i64 0, .int .i64 0]) true := by
  have cc := check_c l h
  clear h
  refine realcall_intro Try.func74 (by kernel_rfl) rfl (Nat.le_of_ble_eq_true (by kernel_rfl)) ?_
  simp only [Try.results74, Try.ntmps74]
  repeat' (first | (with_reducible first | refine awp_seq ?_ | refine awp_blockS ?_ | refine awp_blockC ?_ | refine awp_blockR ?_ | refine awp_skip ?_ | refine awp_ret ?_ | refine awp_exit ?_ | refine awp_region ?_ | refine awp_condM ?_ | refine And.intro ?_ ?_ | apply gQ_merge | apply gE_merge | exact EqV_w | exact EqE_w | exact EqV_ptr | exact EqE_ptr | exact EqV_msl | exact EqE_msl | exact EqV_agg | exact EqE_agg | exact EqV_fn | exact EqE_fn | exact EqV_gd | exact EqE_gd | refine gM_splitN ?_ ?_ | refine gM_split ?_ ?_ |  refine condM_splitDN ?_ ?_ | refine condM_splitD ?_ ?_ | refine condM_splitN ?_ ?_ | refine condM_split ?_ ?_ | refine condM_any ?_ ?_ | refine cw (cc) ?_ | intro _) | (simp [*]) | (refine cw_eq (cc) ?_ ?_; (· (simp [*]; done))))
theorem recsErr_c (l : List Rec) (h : RecsOk l) : RealCall Try.prog 63 [.sl l.length (cRecs l)] (.int .i64 0) true := by
  have cc := checkRecs_c l h
  clear h
  refine realcall_intro Try.func63 (by kernel_rfl) rfl (Nat.le_of_ble_eq_true (by kernel_rfl)) ?_
  simp only [Try.results63, Try.ntmps63]
  repeat' (first | (with_reducible first | refine awp_seq ?_ | refine awp_blockS ?_ | refine awp_blockC ?_ | refine awp_blockR ?_ | refine awp_skip ?_ | refine awp_ret ?_ | refine awp_exit ?_ | refine awp_region ?_ | refine awp_condM ?_ | refine And.intro ?_ ?_ | apply gQ_merge | apply gE_merge | exact EqV_w | exact EqE_w | exact EqV_ptr | exact EqE_ptr | exact EqV_msl | exact EqE_msl | exact EqV_agg | exact EqE_agg | exact EqV_fn | exact EqE_fn | exact EqV_gd | exact EqE_gd | refine gM_splitN ?_ ?_ | refine gM_split ?_ ?_ |  refine condM_splitDN ?_ ?_ | refine condM_splitD ?_ ?_ | refine condM_splitN ?_ ?_ | refine condM_split ?_ ?_ | refine condM_any ?_ ?_ | refine cw (cc) ?_ | intro _) | (simp [*]) | (refine cw_eq (cc) ?_ ?_; (· (simp [*]; done))))
end Go.Proofs.Ytgoemokfpfnlkaa
namespace Go.Proofs.Ytgoemokfpfnlkaa
open Go Go.Fi
set_option maxRecDepth 20000

def mxI (a b : Int) : Int := if a < b then b else a
def mnI (a b : Int) : Int := if b < a then b else a
/-- the work of one record in a span -/
def wT (x : Rec) (f t : Int) : Int := if mxI x.frm f < mnI x.to t then mnI x.to t - mxI x.frm f else 0
def wrkS (l : List Rec) (f t : Int) : Nat → Int
  | 0 => 0
  | k + 1 => wrkS l f t k + wT (nth l k) f t
@[simp] theorem wrkS_zero (l : List Rec) (f t : Int) : wrkS l f t 0 = 0 := rfl
structure Bnd (l : List Rec) : Prop where
  len : l.length ≤ 41
  bd : ∀ k, k < l.length → 0 ≤ (nth l k).frm ∧ (nth l k).to ≤ 9000000000 ∧ (nth l k).frm ≤ 9000000000 ∧ 0 ≤ (nth l k).to
theorem wT_bd {x : Rec} {f t : Int} (h0 : 0 ≤ x.frm) (h1 : x.to ≤ 9000000000) : 0 ≤ wT x f t ∧ wT x f t ≤ 9000000000 := by
  unfold wT mxI mnI
  repeat' split
  all_goals omega
theorem wrkS_bd {l : List Rec} (h : Bnd l) (f t : Int) : ∀ k, k ≤ l.length → 0 ≤ wrkS l f t k ∧ wrkS l f t k ≤ 9000000000 * k
  | 0, _ => by simp
  | k + 1, hk => by
    have ih := wrkS_bd h f t k (by omega)
    have hb := h.bd k (by omega)
    have := wT_bd (f := f) (t := t) hb.1 hb.2.1
    show 0 ≤ wrkS l f t k + _ ∧ wrkS l f t k + _ ≤ _
    omega
set_option maxHeartbeats 8000000 in
theorem workIn_c (l : List Rec) (h : Bnd l) (f t : Int) (hf : -10000000000 ≤ f ∧ f ≤ 10000000000) (ht : -10000000000 ≤ t ∧ t ≤ 10000000000) : RealCall Try.prog 65 [.sl l.length (cRecs l), .int .i64 f, .int .i64 t] (.int .i64 (wrkS l f t l.length)) true := by
  have hlen := h.len
  have kb := keep h.bd
  have ks := keep (wrkS_bd h f t)
  clear h
  refine realcall_intro Try.func65 (by kernel_rfl) rfl (Nat.le_of_ble_eq_true (by kernel_rfl)) ?_
  simp only [Try.results65, Try.ntmps65]
  repeat' (first | (with_reducible first | refine awp_seq ?_ | refine awp_blockS ?_ | refine awp_blockC ?_ | refine awp_blockR ?_ | refine awp_skip ?_ | refine awp_ret ?_ | refine awp_exit ?_ | refine awp_region ?_ | refine awp_condM ?_ | refine And.intro ?_ ?_ | apply gQ_merge | apply gE_merge | exact EqV_w | exact EqE_w | exact EqV_ptr | exact EqE_ptr | exact EqV_msl | exact EqE_msl | exact EqV_agg | exact EqE_agg | exact EqV_fn | exact EqE_fn | exact EqV_gd | exact EqE_gd | refine gM_splitN ?_ ?_ | refine gM_split ?_ ?_ |  refine condM_splitDN ?_ ?_ | refine condM_splitD ?_ ?_ | refine condM_splitN ?_ ?_ | refine condM_split ?_ ?_ | refine condM_any ?_ ?_ | intro _) | (simp [*]))
  refine awp_for3 (fun (k : Nat) => k ≤ l.length) [1, 2, 10, 11] (fun (k : Nat) => [(12, .w false false (.int .i64 k)), (7, .w false false (.int .i64 (wrkS l f t k)))]) [] (fun (k : Nat) => []) (fun (k : Nat) => l.length - k) (fun (_u : Unit) => True) [] (fun (_u : Unit) => [(7, .w false false (.int .i64 (wrkS l f t l.length)))]) [] (fun (_u : Unit) => []) (0) (Nat.zero_le _) (by simp) (by simp) (fun k hk => ?_) (fun _u hf => ?_)
  · by_cases hlt : k < l.length
    · have hb := kb k hlt
      have hs := ks k hk
      have hw := wT_bd (f := f) (t := t) hb.1 hb.2.1
      have ke : Keep (wrkS l f t (k + 1) = wrkS l f t k + (if (if (nth l k).frm < f then f else (nth l k).frm) < (if t < (nth l k).to then t else (nth l k).to) then (if t < (nth l k).to then t else (nth l k).to) - (if (nth l k).frm < f then f else (nth l k).frm) else 0)) := rfl
      generalize wrkS l f t k = S at *
      repeat' (first | (with_reducible first | refine awp_seq ?_ | refine awp_blockS ?_ | refine awp_blockC ?_ | refine awp_blockR ?_ | refine awp_skip ?_ | refine awp_ret ?_ | refine awp_exit ?_ | refine awp_region ?_ | refine awp_condM ?_ | refine And.intro ?_ ?_ | apply gQ_merge | apply gE_merge | exact EqV_w | exact EqE_w | exact EqV_ptr | exact EqE_ptr | exact EqV_msl | exact EqE_msl | exact EqV_agg | exact EqE_agg | exact EqV_fn | exact EqE_fn | exact EqV_gd | exact EqE_gd | refine gM_splitN ?_ ?_ | refine gM_split ?_ ?_ |  refine condM_splitDN ?_ ?_ | refine condM_splitD ?_ ?_ | refine condM_splitN ?_ ?_ | refine condM_split ?_ ?_ | refine condM_any ?_ ?_ | intro _) | (simp [*, hlt]))
      all_goals try first | exact inI64 (by omega) (by omega) | omega
      all_goals (refine loopK_normal _ _ _ _ _ (k + 1) _ ?_ (by first | omega | (dsimp only; omega) | (simp; omega)) ?_; (· omega); (refine le_of ?_ ?_ <;> first | trivial | (simp [*, show wrkS l f t (k + 1) = _ from ke]; done)))
    · have hke : k = l.length := by omega
      subst hke
      repeat' (first | (with_reducible first | refine awp_seq ?_ | refine awp_blockS ?_ | refine awp_blockC ?_ | refine awp_blockR ?_ | refine awp_skip ?_ | refine awp_ret ?_ | refine awp_exit ?_ | refine awp_region ?_ | refine awp_condM ?_ | refine And.intro ?_ ?_ | apply gQ_merge | apply gE_merge | exact EqV_w | exact EqE_w | exact EqV_ptr | exact EqE_ptr | exact EqV_msl | exact EqE_msl | exact EqV_agg | exact EqE_agg | exact EqV_fn | exact EqE_fn | exact EqV_gd | exact EqE_gd | refine gM_splitN ?_ ?_ | refine gM_split ?_ ?_ |  refine condM_splitDN ?_ ?_ | refine condM_splitD ?_ ?_ | refine condM_splitN ?_ ?_ | refine condM_split ?_ ?_ | refine condM_any ?_ ?_ | intro _) | (simp [*]))
      all_goals (refine finW_intro () ?_ ?_; (· trivial); (refine le_of ?_ ?_ <;> first | trivial | (simp [*]; done)))
  · repeat' (first | (with_reducible first | refine awp_seq ?_ | refine awp_blockS ?_ | refine awp_blockC ?_ | refine awp_blockR ?_ | refine awp_skip ?_ | refine awp_ret ?_ | refine awp_exit ?_ | refine awp_region ?_ | refine awp_condM ?_ | refine And.intro ?_ ?_ | apply gQ_merge | apply gE_merge | exact EqV_w | exact EqE_w | exact EqV_ptr | exact EqE_ptr | exact EqV_msl | exact EqE_msl | exact EqV_agg | exact EqE_agg | exact EqV_fn | exact EqE_fn | exact EqV_gd | exact EqE_gd | refine gM_splitN ?_ ?_ | refine gM_split ?_ ?_ |  refine condM_splitDN ?_ ?_ | refine condM_splitD ?_ ?_ | refine condM_splitN ?_ ?_ | refine condM_split ?_ ?_ | refine condM_any ?_ ?_ | intro _) | (simp [*]))
end Go.Proofs.Ytgoemokfpfnlkaa
namespace Go.Proofs.Ytgoemokfpfnlkaa
open Go Go.Fi
set_option maxRecDepth 20000

/-! ### parts between which the gaps are so long -/
def newB (l : List Rec) (gap : Int) (k : Nat) : Bool := decide (k = 0) || decide (gap ≤ (nth l k).frm - (nth l (k - 1)).to)
def cP (l : List Rec) (gap : Int) : Nat → Nat
  | 0 => 0
  | k + 1 => if newB l gap k = true then cP l gap k + 1 else cP l gap k
def lP (l : List Rec) (gap : Int) : Nat → Nat
  | 0 => 0
  | k + 1 => if newB l gap k = true then k else lP l gap k
def fP (l : List Rec) (gap : Int) : Nat → List Int
  | 0 => []
  | k + 1 => if newB l gap k = true then fP l gap k ++ [(k : Int)] ++ [(k : Int)] else (fP l gap k).set ((cP l gap k - 1) * 2 + 1) k
@[simp] theorem cP_zero (l : List Rec) (gap : Int) : cP l gap 0 = 0 := rfl
@[simp] theorem fP_zero (l : List Rec) (gap : Int) : fP l gap 0 = [] := rfl
theorem newB_0 (l : List Rec) (gap : Int) : newB l gap 0 = true := rfl
theorem cP_pos (l : List Rec) (gap : Int) : ∀ k, 0 < k → 0 < cP l gap k
  | 0, h => absurd h (Nat.lt_irrefl _)
  | k + 1, _ => by
    simp only [cP]
    split
    · omega
    · rename_i hn
      have : 0 < k := by
        rcases Nat.eq_zero_or_pos k with h | h
        · subst h; exact absurd (newB_0 l gap) hn
        · exact h
      exact cP_pos l gap k this
theorem cP_le (l : List Rec) (gap : Int) : ∀ k, cP l gap k ≤ k
  | 0 => Nat.le_refl _
  | k + 1 => by
    have := cP_le l gap k
    simp only [cP]; split <;> omega
theorem fP_len (l : List Rec) (gap : Int) : ∀ k, (fP l gap k).length = cP l gap k * 2
  | 0 => rfl
  | k + 1 => by
    have := fP_len l gap k
    simp only [cP, fP]
    split
    · simp; omega
    · simpa using this
theorem lP_lt (l : List Rec) (gap : Int) : ∀ k, 0 < k → lP l gap k < k
  | 0, h => absurd h (Nat.lt_irrefl _)
  | k + 1, _ => by
    simp only [lP]
    split
    · omega
    · rename_i hn
      have : 0 < k := by
        rcases Nat.eq_zero_or_pos k with h | h
        · subst h; exact absurd (newB_0 l gap) hn
        · exact h
      have := lP_lt l gap k this
      omega
theorem nthI_set_ne (l : List Int) (i j : Nat) (v : Int) (h : i ≠ j) : nth (l.set i v) j = nth l j := by
  simp [nth, List.getD_eq_getElem?_getD, h]
theorem fP_last (l : List Rec) (gap : Int) : ∀ k, 0 < k → nth (fP l gap k) ((cP l gap k - 1) * 2) = (lP l gap k : Int)
  | 0, h => absurd h (Nat.lt_irrefl _)
  | k + 1, _ => by
    have hl := fP_len l gap k
    simp only [cP, fP, lP]
    split
    · rename_i hn
      have e : (cP l gap k + 1 - 1) * 2 = (fP l gap k).length := by omega
      rw [e]
      simp [nth, List.getD_eq_getElem?_getD]
    · rename_i hn
      have : 0 < k := by
        rcases Nat.eq_zero_or_pos k with h | h
        · subst h; exact absurd (newB_0 l gap) hn
        · exact h
      rw [nthI_set_ne _ _ _ _ (by omega)]
      exact fP_last l gap k this
@[simp] theorem iA_two (a b : Int) : iA [a, b] = [.w false false (.int .i64 a), .w false false (.int .i64 b)] := rfl
@[simp] theorem iA_snoc2 (l : List Int) (a b : Int) : iA l ++ [.w false false (.int .i64 a), .w false false (.int .i64 b)] = iA (l ++ [a, b]) := by simp [iA, ints]
def work (r : Rul) (l : List Rec) : PV := .agg (cRul r ++ [.sl l.length (cRecs l)])
set_option maxHeartbeats 8000000 in
theorem parts_c (r : Rul) (l : List Rec) (h : Bnd l) (gap : Int) : RealCall Try.prog 75 [work r l, .int .i64 gap] (.sl (cP l gap l.length) (ints (fP l gap l.length))) true := by
  have hlen := h.len
  have kb := keep h.bd
  clear h
  unfold work cRul
  refine realcall_intro Try.func75 (by kernel_rfl) rfl (Nat.le_of_ble_eq_true (by kernel_rfl)) ?_
  simp only [Try.results75, Try.ntmps75]
  repeat' (first | (with_reducible first | refine awp_seq ?_ | refine awp_blockS ?_ | refine awp_blockC ?_ | refine awp_blockR ?_ | refine awp_skip ?_ | refine awp_ret ?_ | refine awp_exit ?_ | refine awp_region ?_ | refine awp_regionD (id := 5) 16 mixed (by decide +kernel) ?_ | refine awp_condM ?_ | refine And.intro ?_ ?_ | apply gQ_merge | apply gE_merge | exact EqV_w | exact EqE_w | exact EqV_ptr | exact EqE_ptr | exact EqV_msl | exact EqE_msl | exact EqV_agg | exact EqE_agg | exact EqV_fn | exact EqE_fn | exact EqV_gd | exact EqE_gd | refine gM_splitN ?_ ?_ | refine gM_split ?_ ?_ |  refine condM_splitDN ?_ ?_ | refine condM_splitD ?_ ?_ | refine condM_splitN ?_ ?_ | refine condM_split ?_ ?_ | refine condM_any ?_ ?_ | intro _) | (simp [*]))
  refine awp_for4 2 (fun (k : Nat) => k ≤ l.length) [1, 2, 9, 10] (fun (k : Nat) => [(11, .w false false (.int .i64 k)), (5, .msl 1 (cP l gap k * 2) 2 0 (cP l gap k))]) [0] (fun (k : Nat) => [(1, iA (fP l gap k))]) (fun (k : Nat) => l.length - k) (fun (_u : Unit) => True) [] (fun (_u : Unit) => [(5, .msl 1 (cP l gap l.length * 2) 2 0 (cP l gap l.length))]) [] (fun (_u : Unit) => [(1, iA (fP l gap l.length))]) (0) (Nat.zero_le _) (le_gen [] (by simp) (by simp)) (fun k hk => ?_) (fun _u hf => ?_)
  · by_cases hlt : k < l.length
    · have hlI : (k : Int) < (l.length : Int) := by omega
      have hb := kb k hlt
      have hfl := fP_len l gap k
      have hcl := cP_le l gap k
      cases k with
      | zero =>
        have e1 : Keep (fP l gap 1 = [(0 : Int), (0 : Int)]) := rfl
        have e2 : Keep (cP l gap 1 = 1) := rfl
        have t0 : List.take 3 (cRecs l) = [.str (nth l 0).driver, .int .i64 (nth l 0).frm, .int .i64 (nth l 0).to] := by have := cRecs_drop l 0 hlt; simpa using this
        have t1 : List.take 3 (List.map (AV.w false false) (cRecs l)) = [.w false false (.str (nth l 0).driver), .w false false (.int .i64 (nth l 0).frm), .w false false (.int .i64 (nth l 0).to)] := by rw [← List.map_take, t0]; rfl
        have t2 : min 3 (l.length * 3) = 3 := by omega
        repeat' (first | (with_reducible first | refine awp_seq ?_ | refine awp_blockS ?_ | refine awp_blockC ?_ | refine awp_blockR ?_ | refine awp_skip ?_ | refine awp_ret ?_ | refine awp_exit ?_ | refine awp_region ?_ | refine awp_regionD (id := 5) 16 mixed (by decide +kernel) ?_ | refine awp_condM ?_ | refine And.intro ?_ ?_ | apply gQ_merge | apply gE_merge | exact EqV_w | exact EqE_w | exact EqV_ptr | exact EqE_ptr | exact EqV_msl | exact EqE_msl | exact EqV_agg | exact EqE_agg | exact EqV_fn | exact EqE_fn | exact EqV_gd | exact EqE_gd | refine gM_splitN ?_ ?_ | refine gM_split ?_ ?_ |  refine condM_splitDN ?_ ?_ | refine condM_splitD ?_ ?_ | refine condM_splitN ?_ ?_ | refine condM_split ?_ ?_ | refine condM_any ?_ ?_ | intro _) | (simp [*, hlt, hlI, t0, t1, t2]))
        all_goals try first | exact inI64 (by omega) (by omega) | omega
        all_goals (refine loopK_normal _ _ _ _ _ 1 _ ?_ (by first | omega | (dsimp only; omega) | (simp; omega)) ?_; (· omega); (refine le_gen [] ?_ ?_ <;> first | trivial | (simp [*, show fP l gap 1 = _ from e1, show cP l gap 1 = _ from e2]; done)))
      | succ k =>
        have hk' : k < l.length := by omega
        have hb2 := kb k hk'
        have hkI : ((k + 1 : Nat) : Int) - 1 = (k : Int) := by omega
        have hcp := cP_pos l gap (k + 1) (by omega)
        by_cases hn : gap ≤ (nth l (k + 1)).frm - (nth l k).to
        · have hnb : newB l gap (k + 1) = true := by unfold newB; simp [hn]
          have e1 : fP l gap (k + 2) = fP l gap (k + 1) ++ [((k + 1 : Nat) : Int), ((k + 1 : Nat) : Int)] := by rw [fP, if_pos hnb]; simp
          have e2 : cP l gap (k + 2) = cP l gap (k + 1) + 1 := by rw [cP, if_pos hnb]
          have ke1 := keep e1
          have ke2 := keep e2
          clear e1 e2 hnb
          generalize fP l gap (k + 1) = F at *
          generalize cP l gap (k + 1) = c at *
          repeat' (first | (with_reducible first | refine awp_seq ?_ | refine awp_blockS ?_ | refine awp_blockC ?_ | refine awp_blockR ?_ | refine awp_skip ?_ | refine awp_ret ?_ | refine awp_exit ?_ | refine awp_region ?_ | refine awp_regionD (id := 5) 16 mixed (by decide +kernel) ?_ | refine awp_condM ?_ | refine And.intro ?_ ?_ | apply gQ_merge | apply gE_merge | exact EqV_w | exact EqE_w | exact EqV_ptr | exact EqE_ptr | exact EqV_msl | exact EqE_msl | exact EqV_agg | exact EqE_agg | exact EqV_fn | exact EqE_fn | exact EqV_gd | exact EqE_gd | refine gM_splitN ?_ ?_ | refine gM_split ?_ ?_ |  refine condM_splitDN ?_ ?_ | refine condM_splitD ?_ ?_ | refine condM_splitN ?_ ?_ | refine condM_split ?_ ?_ | refine condM_any ?_ ?_ | intro _) | (simp [*, hlt, hlI, hk', hkI, hn]))
          all_goals try first | exact inI64 (by omega) (by omega) | omega
          all_goals (refine loopK_normal _ _ _ _ _ (k + 2) _ ?_ (by first | omega | (dsimp only; omega) | (simp; omega)) ?_; (· omega); (refine le_gen [] ?_ ?_ <;> first | trivial | (simp [*, show fP l gap (k + 2) = _ from ke1, show cP l gap (k + 2) = _ from ke2, Nat.add_mul, Int.add_assoc]; done)))
        · have hnb : newB l gap (k + 1) = false := by unfold newB; simp [hn]
          have e1 : fP l gap (k + 2) = (fP l gap (k + 1)).set ((cP l gap (k + 1) - 1) * 2 + 1) ((k + 1 : Nat) : Int) := by rw [fP, if_neg (by rw [hnb]; decide)]
          have e2 : cP l gap (k + 2) = cP l gap (k + 1) := by rw [cP, if_neg (by rw [hnb]; decide)]
          have ke1 := keep e1
          have ke2 := keep e2
          clear e1 e2 hnb
          generalize fP l gap (k + 1) = F at *
          generalize cP l gap (k + 1) = c at *
          obtain ⟨c, rfl⟩ : ∃ d, c = d + 1 := ⟨c - 1, by omega⟩
          have hI : ((c + 1 : Nat) : Int) - 1 = (c : Int) := by omega
          repeat' (first | (with_reducible first | refine awp_seq ?_ | refine awp_blockS ?_ | refine awp_blockC ?_ | refine awp_blockR ?_ | refine awp_skip ?_ | refine awp_ret ?_ | refine awp_exit ?_ | refine awp_region ?_ | refine awp_regionD (id := 5) 16 mixed (by decide +kernel) ?_ | refine awp_condM ?_ | refine And.intro ?_ ?_ | apply gQ_merge | apply gE_merge | exact EqV_w | exact EqE_w | exact EqV_ptr | exact EqE_ptr | exact EqV_msl | exact EqE_msl | exact EqV_agg | exact EqE_agg | exact EqV_fn | exact EqE_fn | exact EqV_gd | exact EqE_gd | refine gM_splitN ?_ ?_ | refine gM_split ?_ ?_ |  refine condM_splitDN ?_ ?_ | refine condM_splitD ?_ ?_ | refine condM_splitN ?_ ?_ | refine condM_split ?_ ?_ | refine condM_any ?_ ?_ | intro _) | (simp [*, hlt, hlI, hk', hkI, hn, hI]))
          all_goals try first | exact inI64 (by omega) (by omega) | omega
          all_goals (refine loopK_normal _ _ _ _ _ (k + 2) _ ?_ (by first | omega | (dsimp only; omega) | (simp; omega)) ?_; (· omega); (refine le_gen [] ?_ ?_ <;> first | trivial | (simp [*, show fP l gap (k + 2) = _ from ke1, show cP l gap (k + 2) = _ from ke2, Int.add_assoc]; done)))
    · have hke : k = l.length := by omega
      subst hke
      repeat' (first | (with_reducible first | refine awp_seq ?_ | refine awp_blockS ?_ | refine awp_blockC ?_ | refine awp_blockR ?_ | refine awp_skip ?_ | refine awp_ret ?_ | refine awp_exit ?_ | refine awp_region ?_ | refine awp_regionD (id := 5) 16 mixed (by decide +kernel) ?_ | refine awp_condM ?_ | refine And.intro ?_ ?_ | apply gQ_merge | apply gE_merge | exact EqV_w | exact EqE_w | exact EqV_ptr | exact EqE_ptr | exact EqV_msl | exact EqE_msl | exact EqV_agg | exact EqE_agg | exact EqV_fn | exact EqE_fn | exact EqV_gd | exact EqE_gd | refine gM_splitN ?_ ?_ | refine gM_split ?_ ?_ |  refine condM_splitDN ?_ ?_ | refine condM_splitD ?_ ?_ | refine condM_splitN ?_ ?_ | refine condM_split ?_ ?_ | refine condM_any ?_ ?_ | intro _) | (simp [*]))
      all_goals (refine finW_intro () ?_ ?_; (· trivial); (refine le_of ?_ ?_ <;> first | trivial | (simp [*]; done)))
  · have hfl := fP_len l gap l.length
    repeat' (first | (with_reducible first | refine awp_seq ?_ | refine awp_blockS ?_ | refine awp_blockC ?_ | refine awp_blockR ?_ | refine awp_skip ?_ | refine awp_ret ?_ | refine awp_exit ?_ | refine awp_region ?_ | refine awp_regionD (id := 5) 16 mixed (by decide +kernel) ?_ | refine awp_condM ?_ | refine And.intro ?_ ?_ | apply gQ_merge | apply gE_merge | exact EqV_w | exact EqE_w | exact EqV_ptr | exact EqE_ptr | exact EqV_msl | exact EqE_msl | exact EqV_agg | exact EqE_agg | exact EqV_fn | exact EqE_fn | exact EqV_gd | exact EqE_gd | refine gM_splitN ?_ ?_ | refine gM_split ?_ ?_ |  refine condM_splitDN ?_ ?_ | refine condM_splitD ?_ ?_ | refine condM_splitN ?_ ?_ | refine condM_split ?_ ?_ | refine condM_any ?_ ?_ | intro _) | (simp [*]))
theorem last_c (r : Rul) (l : List Rec) (h : Bnd l) (h0 : 0 < l.length) (gap : Int) : RealCall Try.prog 64 [work r l, .int .i64 gap] (.int .i64 (lP l gap l.length)) true := by
  have cp := parts_c r l h gap
  have hc := cP_pos l gap l.length h0
  have hcl := cP_le l gap l.length
  have hf := fP_last l gap l.length h0
  have hfl := fP_len l gap l.length
  have hlen := h.len
  clear h
  generalize cP l gap l.length = c at *
  generalize fP l gap l.length = F at *
  generalize lP l gap l.length = q at *
  obtain ⟨c, rfl⟩ : ∃ d, c = d + 1 := ⟨c - 1, by omega⟩
  rw [Nat.add_sub_cancel] at hf
  have hI : ((c + 1 : Nat) : Int) - 1 = (c : Int) := by omega
  have hq : nthP (ints F) (c * 2) = .int .i64 q := by rw [ints_get _ _ (by omega), hf]
  clear hf
  unfold work cRul at *
  refine realcall_intro Try.func64 (by kernel_rfl) rfl (Nat.le_of_ble_eq_true (by kernel_rfl)) ?_
  simp only [Try.results64, Try.ntmps64]
  repeat' (first | (with_reducible first | refine awp_seq ?_ | refine awp_blockS ?_ | refine awp_blockC ?_ | refine awp_blockR ?_ | refine awp_skip ?_ | refine awp_ret ?_ | refine awp_exit ?_ | refine awp_region ?_ | refine awp_condM ?_ | refine And.intro ?_ ?_ | apply gQ_merge | apply gE_merge | exact EqV_w | exact EqE_w | exact EqV_ptr | exact EqE_ptr | exact EqV_msl | exact EqE_msl | exact EqV_agg | exact EqE_agg | exact EqV_fn | exact EqE_fn | exact EqV_gd | exact EqE_gd | refine gM_splitN ?_ ?_ | refine gM_split ?_ ?_ |  refine condM_splitDN ?_ ?_ | refine condM_splitD ?_ ?_ | refine condM_splitN ?_ ?_ | refine condM_split ?_ ?_ | refine condM_any ?_ ?_ | refine cw (cp) ?_ | intro _) | (simp [*, hI, hq]) | (refine cw_eq (cp) ?_ ?_; (· (simp [*]; done))))
  all_goals first | exact inI64 (by omega) (by omega) | omega
end Go.Proofs.Ytgoemokfpfnlkaa
