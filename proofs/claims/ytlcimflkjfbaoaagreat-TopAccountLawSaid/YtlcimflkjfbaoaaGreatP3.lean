/- Contracts of functions for this claim: lemmas alone. -/
import Derived.Test.YtlcimflkjfbaoaaGreatP2
set_option linter.unusedSimpArgs false
set_option linter.unusedVariables false
namespace Go.Proofs.YtlcimflkjfbaoaaGreat
open Go Go.Fi
set_option maxRecDepth 20000

/-! ### searching -/
def idxF {α : Type} (p : α → Bool) : List α → Nat → Int
  | [], _ => -1
  | x :: r, i => if p x = true then (i : Int) else idxF p r (i + 1)
def idxOf {α : Type} (p : α → Bool) (l : List α) : Int := idxF p l 0
theorem idxF_any {α : Type} (p : α → Bool) : ∀ (l : List α) (i : Nat), decide (0 ≤ idxF p l i) = l.any p
  | [], i => rfl
  | x :: r, i => by
    unfold idxF
    cases h : p x with
    | true => simp [h]
    | false => simp [h]; have := idxF_any p r (i + 1); simpa using this
theorem idxOf_any {α : Type} (p : α → Bool) (l : List α) : decide (0 ≤ idxOf p l) = l.any p := idxF_any p l 0
def isA (s : ByteArray) (a : Acc) : Bool := decide (a.name = s)
def findS (l : List Acc) (s : ByteArray) : Int := idxOf (isA s) l
def hasS (l : List Acc) (s : ByteArray) : Bool := l.any (isA s)
theorem find_has (l : List Acc) (s : ByteArray) : decide (0 ≤ findS l s) = hasS l s := idxOf_any _ l
theorem indexFunc_c (l : List Acc) (hl : l.length < 100000) (g : FuncId) (caps : List PV) (p : Acc → Bool) (h : ∀ x, RealCall Tryz.prog g (.agg (cAcc x) :: caps) (.bool (p x)) true) :
    RealCall Tryz.prog 95 [.sl l.length (cAccs l), .fn g caps] (.int .i64 (idxOf p l)) true := by
  generalize hR : idxOf p l = R
  have kR : Keep (idxF p l 0 = R) := keep hR
  clear hR
  refine realcall_intro Tryz.func95 (by kernel_rfl) rfl (Nat.le_of_ble_eq_true (by kernel_rfl)) ?_
  simp only [Tryz.results95, Tryz.ntmps95]
  repeat' (first | (with_reducible first | refine awp_seq ?_ | refine awp_blockS ?_ | refine awp_blockC ?_ | refine awp_blockR ?_ | refine awp_skip ?_ | refine awp_ret ?_ | refine awp_exit ?_ | refine awp_region ?_ | refine awp_condM ?_ | refine And.intro ?_ ?_ | apply gQ_merge | apply gE_merge | exact EqV_w | exact EqE_w | exact EqV_ptr | exact EqE_ptr | exact EqV_msl | exact EqE_msl | exact EqV_agg | exact EqE_agg | exact EqV_fn | exact EqE_fn | exact EqV_gd | exact EqE_gd | refine gM_splitN ?_ ?_ | refine gM_split ?_ ?_ |  refine condM_splitDN ?_ ?_ | refine condM_splitD ?_ ?_ | refine condM_splitN ?_ ?_ | refine condM_split ?_ ?_ | refine condM_any ?_ ?_ | intro _) | (simp [*]))
  refine awp_for3 (fun (k : Nat) => k ≤ l.length ∧ idxF p (l.drop k) k = R) [0, 1, 7] (fun (k : Nat) => [(8, .w false false (.int .i64 k))]) [] (fun (k : Nat) => []) (fun (k : Nat) => l.length - k) (fun (_u : Unit) => R = -1) [] (fun (_u : Unit) => []) [] (fun (_u : Unit) => []) (0) ⟨Nat.zero_le _, kR⟩ (by simp) (by simp) (fun k hk => ?_) (fun _u hf => ?_)
  · obtain ⟨hk, hj⟩ := hk
    by_cases hlt : k < l.length
    · have c1 := h (nth l k)
      have hj' := hj
      rw [drop_nth l k hlt] at hj'
      unfold idxF at hj'
      have kj := keep hj'
      clear hj hj' h
      repeat' (first | (with_reducible first | refine awp_seq ?_ | refine awp_blockS ?_ | refine awp_blockC ?_ | refine awp_blockR ?_ | refine awp_skip ?_ | refine awp_ret ?_ | refine awp_exit ?_ | refine awp_region ?_ | refine awp_condM ?_ | refine And.intro ?_ ?_ | apply gQ_merge | apply gE_merge | exact EqV_w | exact EqE_w | exact EqV_ptr | exact EqE_ptr | exact EqV_msl | exact EqE_msl | exact EqV_agg | exact EqE_agg | exact EqV_fn | exact EqE_fn | exact EqV_gd | exact EqE_gd | refine gM_splitN ?_ ?_ | refine gM_split ?_ ?_ |  refine condM_splitDN ?_ ?_ | refine condM_splitD ?_ ?_ | refine condM_splitN ?_ ?_ | refine condM_split ?_ ?_ | refine condM_any ?_ ?_ | refine cw (c1) ?_ | intro _) | (simp [*, hlt]) | (refine cw_eq (c1) ?_ ?_; (· (simp [*]; done))))
      all_goals first
        | exact inI64 (by omega) (by omega)
        | omega
        | (rename_i hp; rw [if_pos hp] at kj; exact kj)
        | (rename_i hp; rw [if_neg (by rw [hp]; decide)] at kj; (refine loopK_normal _ _ _ _ _ (k + 1) _ ?_ (by first | omega | (dsimp only; omega) | (simp; omega)) ?_; (· exact ⟨by omega, kj⟩); (refine le_of ?_ ?_ <;> first | trivial | (simp [*]; done))))
        | skip
    · have hke : k = l.length := by omega
      subst hke
      repeat' (first | (with_reducible first | refine awp_seq ?_ | refine awp_blockS ?_ | refine awp_blockC ?_ | refine awp_blockR ?_ | refine awp_skip ?_ | refine awp_ret ?_ | refine awp_exit ?_ | refine awp_region ?_ | refine awp_condM ?_ | refine And.intro ?_ ?_ | apply gQ_merge | apply gE_merge | exact EqV_w | exact EqE_w | exact EqV_ptr | exact EqE_ptr | exact EqV_msl | exact EqE_msl | exact EqV_agg | exact EqE_agg | exact EqV_fn | exact EqE_fn | exact EqV_gd | exact EqE_gd | refine gM_splitN ?_ ?_ | refine gM_split ?_ ?_ |  refine condM_splitDN ?_ ?_ | refine condM_splitD ?_ ?_ | refine condM_splitN ?_ ?_ | refine condM_split ?_ ?_ | refine condM_any ?_ ?_ | intro _) | (simp [*]))
      all_goals (refine finW_intro () ?_ ?_; (· rw [← hj, List.drop_length]; rfl); (refine le_of ?_ ?_ <;> first | trivial | (simp [*]; done)))
  · subst hf
    repeat' (first | (with_reducible first | refine awp_seq ?_ | refine awp_blockS ?_ | refine awp_blockC ?_ | refine awp_blockR ?_ | refine awp_skip ?_ | refine awp_ret ?_ | refine awp_exit ?_ | refine awp_region ?_ | refine awp_condM ?_ | refine And.intro ?_ ?_ | apply gQ_merge | apply gE_merge | exact EqV_w | exact EqE_w | exact EqV_ptr | exact EqE_ptr | exact EqV_msl | exact EqE_msl | exact EqV_agg | exact EqE_agg | exact EqV_fn | exact EqE_fn | exact EqV_gd | exact EqE_gd | refine gM_splitN ?_ ?_ | refine gM_split ?_ ?_ |  refine condM_splitDN ?_ ?_ | refine condM_splitD ?_ ?_ | refine condM_splitN ?_ ?_ | refine condM_split ?_ ?_ | refine condM_any ?_ ?_ | intro _) | (simp [*]))
theorem at1_c (s : ByteArray) (a : Acc) : RealCall Tryz.prog 96 [.agg (cAcc a), .ip [.str s] 0] (.bool (isA s a)) true := by
  unfold isA cAcc
  refine realcall_intro Tryz.func96 (by kernel_rfl) rfl (Nat.le_of_ble_eq_true (by kernel_rfl)) ?_
  simp only [Tryz.results96, Tryz.ntmps96]
  repeat' (first | (with_reducible first | refine awp_seq ?_ | refine awp_blockS ?_ | refine awp_blockC ?_ | refine awp_blockR ?_ | refine awp_skip ?_ | refine awp_ret ?_ | refine awp_exit ?_ | refine awp_region ?_ | refine awp_condM ?_ | refine And.intro ?_ ?_ | apply gQ_merge | apply gE_merge | exact EqV_w | exact EqE_w | exact EqV_ptr | exact EqE_ptr | exact EqV_msl | exact EqE_msl | exact EqV_agg | exact EqE_agg | exact EqV_fn | exact EqE_fn | exact EqV_gd | exact EqE_gd | refine gM_splitN ?_ ?_ | refine gM_split ?_ ?_ |  refine condM_splitDN ?_ ?_ | refine condM_splitD ?_ ?_ | refine condM_splitN ?_ ?_ | refine condM_split ?_ ?_ | refine condM_any ?_ ?_ | intro _) | (simp [*]))
theorem at_c (l : List Acc) (hl : l.length < 100000) (s : ByteArray) : RealCall Tryz.prog 82 [.sl l.length (cAccs l), .str s] (.int .i64 (findS l s)) true := by
  have c1 := indexFunc_c l hl 96 [.ip [.str s] 0] (isA s) (at1_c s)
  unfold findS
  refine realcall_intro Tryz.func82 (by kernel_rfl) rfl (Nat.le_of_ble_eq_true (by kernel_rfl)) ?_
  simp only [Tryz.results82, Tryz.ntmps82]
  repeat' (first | (with_reducible first | refine awp_seq ?_ | refine awp_blockS ?_ | refine awp_blockC ?_ | refine awp_blockR ?_ | refine awp_skip ?_ | refine awp_ret ?_ | refine awp_exit ?_ | refine awp_region ?_ | refine awp_condM ?_ | refine And.intro ?_ ?_ | apply gQ_merge | apply gE_merge | exact EqV_w | exact EqE_w | exact EqV_ptr | exact EqE_ptr | exact EqV_msl | exact EqE_msl | exact EqV_agg | exact EqE_agg | exact EqV_fn | exact EqE_fn | exact EqV_gd | exact EqE_gd | refine gM_splitN ?_ ?_ | refine gM_split ?_ ?_ |  refine condM_splitDN ?_ ?_ | refine condM_splitD ?_ ?_ | refine condM_splitN ?_ ?_ | refine condM_split ?_ ?_ | refine condM_any ?_ ?_ | refine cw (c1) ?_ | intro _) | (simp [*]) | (refine cw_eq (c1) ?_ ?_; (· (simp [*]; done))))
theorem has_c (l : List Acc) (hl : l.length < 100000) (s : ByteArray) : RealCall Tryz.prog 54 [.sl l.length (cAccs l), .str s] (.bool (hasS l s)) true := by
  have c1 := at_c l hl s
  have h := find_has l s
  generalize findS l s = i at *
  rw [← h]
  clear h
  refine realcall_intro Tryz.func54 (by kernel_rfl) rfl (Nat.le_of_ble_eq_true (by kernel_rfl)) ?_
  simp only [Tryz.results54, Tryz.ntmps54]
  repeat' (first | (with_reducible first | refine awp_seq ?_ | refine awp_blockS ?_ | refine awp_blockC ?_ | refine awp_blockR ?_ | refine awp_skip ?_ | refine awp_ret ?_ | refine awp_exit ?_ | refine awp_region ?_ | refine awp_condM ?_ | refine And.intro ?_ ?_ | apply gQ_merge | apply gE_merge | exact EqV_w | exact EqE_w | exact EqV_ptr | exact EqE_ptr | exact EqV_msl | exact EqE_msl | exact EqV_agg | exact EqE_agg | exact EqV_fn | exact EqE_fn | exact EqV_gd | exact EqE_gd | refine gM_splitN ?_ ?_ | refine gM_split ?_ ?_ |  refine condM_splitDN ?_ ?_ | refine condM_splitD ?_ ?_ | refine condM_splitN ?_ ?_ | refine condM_split ?_ ?_ | refine condM_any ?_ ?_ | refine cw (c1) ?_ | intro _) | (simp [*]) | (refine cw_eq (c1) ?_ ?_; (· (simp [*]; done))))

/-! ### accounts -/
def accE (l : List Acc) (a : Acc) : Int := firstS [errUnless (nameB a.name) 4, errUnless (!hasS l a.name) 5, errUnless (winB a.kind 0 3) 15]
def accsF (l : List Acc) : List Acc → Nat → Int × Int
  | [], _ => (0, 0)
  | a :: r, i => if accE (l.take i) a = 0 then accsF l r (i + 1) else ((i : Int), accE (l.take i) a)
def accsS (l : List Acc) : Int × Int := if l.length = 0 then (0, 10) else if 20 < l.length then (0, 8) else accsF l l 0
def pairI (x : Int × Int) : PV := .tup [.int .i64 x.1, .int .i64 x.2]
structure AccsIn (l : List Acc) : Prop where
  len : l.length < 10000
  names : ∀ k, k < l.length → (nth l k).name.size < 1000000
end Go.Proofs.YtlcimflkjfbaoaaGreat
namespace Go.Proofs.YtlcimflkjfbaoaaGreat
open Go Go.Fi
set_option maxRecDepth 20000

theorem accsF_bad (l : List Acc) (k : Nat) (h : k < l.length) (hb : accE (l.take k) (nth l k) ≠ 0) : accsF l (l.drop k) k = ((k : Int), accE (l.take k) (nth l k)) := by
  rw [drop_nth l k h]; simp only [accsF]; rw [if_neg hb]
theorem accsF_ok (l : List Acc) (k : Nat) (h : k < l.length) (hb : accE (l.take k) (nth l k) = 0) : accsF l (l.drop k) k = accsF l (l.drop (k + 1)) (k + 1) := by
  rw [drop_nth l k h]; simp only [accsF]; rw [if_pos hb]
theorem accsF_end (l : List Acc) (k : Nat) (h : l.length ≤ k) : accsF l (l.drop k) k = (0, 0) := by
  rw [List.drop_eq_nil_of_le h]; rfl
set_option maxHeartbeats 4000000 in
theorem checkAccounts_c (l : List Acc) (hl : AccsIn l) : RealCall Tryz.prog 81 [.sl l.length (cAccs l)] (pairI (accsS l)) true := by
  have hlen := hl.len
  have hnm := hl.names
  clear hl
  unfold accsS pairI
  by_cases h0 : l.length = 0
  · rw [if_pos h0]
    have c1 := first2_c 10 0
    refine realcall_intro Tryz.func81 (by kernel_rfl) rfl (Nat.le_of_ble_eq_true (by kernel_rfl)) ?_
    simp only [Tryz.results81, Tryz.ntmps81]
    repeat' (first | (with_reducible first | refine awp_seq ?_ | refine awp_blockS ?_ | refine awp_blockC ?_ | refine awp_blockR ?_ | refine awp_skip ?_ | refine awp_ret ?_ | refine awp_exit ?_ | refine awp_region ?_ | refine awp_regionD (id := 7) 19 mixed (by decide +kernel) ?_ | refine awp_condM ?_ | refine And.intro ?_ ?_ | apply gQ_merge | apply gE_merge | exact EqV_w | exact EqE_w | exact EqV_ptr | exact EqE_ptr | exact EqV_msl | exact EqE_msl | exact EqV_agg | exact EqE_agg | exact EqV_fn | exact EqE_fn | exact EqV_gd | exact EqE_gd | refine gM_splitN ?_ ?_ | refine gM_split ?_ ?_ |  refine condM_splitDN ?_ ?_ | refine condM_splitD ?_ ?_ | refine condM_splitN ?_ ?_ | refine condM_split ?_ ?_ | refine condM_any ?_ ?_ | refine cw (unless_c _ _) ?_ | refine cw (c1) ?_ | intro _) | (simp [*, h0, firstS]) | (refine cw_eq (unless_c _ _) ?_ ?_; (· (simp [*]; done))) | (refine cw_eq (c1) ?_ ?_; (· (simp [*]; done))))
  rw [if_neg h0]
  by_cases h1 : 20 < l.length
  · rw [if_pos h1]
    have c1 := first2_c 0 8
    have e1 : 0 < l.length := by omega
    have e2 : ¬ (l.length : Int) ≤ 20 := by omega
    refine realcall_intro Tryz.func81 (by kernel_rfl) rfl (Nat.le_of_ble_eq_true (by kernel_rfl)) ?_
    simp only [Tryz.results81, Tryz.ntmps81]
    repeat' (first | (with_reducible first | refine awp_seq ?_ | refine awp_blockS ?_ | refine awp_blockC ?_ | refine awp_blockR ?_ | refine awp_skip ?_ | refine awp_ret ?_ | refine awp_exit ?_ | refine awp_region ?_ | refine awp_regionD (id := 7) 19 mixed (by decide +kernel) ?_ | refine awp_condM ?_ | refine And.intro ?_ ?_ | apply gQ_merge | apply gE_merge | exact EqV_w | exact EqE_w | exact EqV_ptr | exact EqE_ptr | exact EqV_msl | exact EqE_msl | exact EqV_agg | exact EqE_agg | exact EqV_fn | exact EqE_fn | exact EqV_gd | exact EqE_gd | refine gM_splitN ?_ ?_ | refine gM_split ?_ ?_ |  refine condM_splitDN ?_ ?_ | refine condM_splitD ?_ ?_ | refine condM_splitN ?_ ?_ | refine condM_split ?_ ?_ | refine condM_any ?_ ?_ | refine cw (unless_c _ _) ?_ | refine cw (c1) ?_ | intro _) | (simp [*, h0, e1, e2, firstS]) | (refine cw_eq (unless_c _ _) ?_ ?_; (· (simp [*]; done))) | (refine cw_eq (c1) ?_ ?_; (· (simp [*]; done))))
  rw [if_neg h1]
  have c1 := first2_c 0 0
  have e1 : 0 < l.length := by omega
  have e2 : (l.length : Int) ≤ 20 := by omega
  generalize hR : accsF l l 0 = R
  have kR : Keep (accsF l l 0 = R) := keep hR
  clear hR
  obtain ⟨r1, r2⟩ := R
  refine realcall_intro Tryz.func81 (by kernel_rfl) rfl (Nat.le_of_ble_eq_true (by kernel_rfl)) ?_
  simp only [Tryz.results81, Tryz.ntmps81]
  repeat' (first | (with_reducible first | refine awp_seq ?_ | refine awp_blockS ?_ | refine awp_blockC ?_ | refine awp_blockR ?_ | refine awp_skip ?_ | refine awp_ret ?_ | refine awp_exit ?_ | refine awp_region ?_ | refine awp_regionD (id := 7) 19 mixed (by decide +kernel) ?_ | refine awp_condM ?_ | refine And.intro ?_ ?_ | apply gQ_merge | apply gE_merge | exact EqV_w | exact EqE_w | exact EqV_ptr | exact EqE_ptr | exact EqV_msl | exact EqE_msl | exact EqV_agg | exact EqE_agg | exact EqV_fn | exact EqE_fn | exact EqV_gd | exact EqE_gd | refine gM_splitN ?_ ?_ | refine gM_split ?_ ?_ |  refine condM_splitDN ?_ ?_ | refine condM_splitD ?_ ?_ | refine condM_splitN ?_ ?_ | refine condM_split ?_ ?_ | refine condM_any ?_ ?_ | refine cw (unless_c _ _) ?_ | refine cw (c1) ?_ | intro _) | (simp [*, e1, e2, firstS]) | (refine cw_eq (unless_c _ _) ?_ ?_; (· (simp [*]; done))) | (refine cw_eq (c1) ?_ ?_; (· (simp [*]; done))))
  refine awp_for3 (fun (k : Nat) => k ≤ l.length ∧ accsF l (l.drop k) k = (r1, r2)) [0, 21, 22] (fun (k : Nat) => [(23, .w false false (.int .i64 k))]) [] (fun (k : Nat) => []) (fun (k : Nat) => l.length - k) (fun (_u : Unit) => r1 = 0 ∧ r2 = 0) [] (fun (_u : Unit) => []) [] (fun (_u : Unit) => []) (0) ⟨Nat.zero_le _, kR⟩ (by simp) (by simp) (fun k hk => ?_) (fun _u hf => ?_)
  · obtain ⟨hk, hj⟩ := hk
    clear kR c1 h0 h1 e1 e2
    by_cases hlt : k < l.length
    · have c2 := isName_c (nth l k).name (hnm k hlt)
      have c3 := has_c (l.take k) (by rw [take_len _ _ hk]; omega) (nth l k).name
      rw [take_len _ _ hk] at c3
      have c4 := within_c (nth l k).kind 0 3
      have c5 := first3_c (errUnless (nameB (nth l k).name) 4) (errUnless (!hasS (l.take k) (nth l k).name) 5) (errUnless (winB (nth l k).kind 0 3) 15)
      change RealCall _ _ _ (.int .i64 (accE (l.take k) (nth l k))) true at c5
      clear hnm
      by_cases he : accE (l.take k) (nth l k) = 0
      · rw [accsF_ok l k hlt he] at hj
        have kj := keep hj
        clear hj
        generalize accE (l.take k) (nth l k) = E at *
        repeat' (first | (with_reducible first | refine awp_seq ?_ | refine awp_blockS ?_ | refine awp_blockC ?_ | refine awp_blockR ?_ | refine awp_skip ?_ | refine awp_ret ?_ | refine awp_exit ?_ | refine awp_region ?_ | refine awp_regionD (id := 7) 19 mixed (by decide +kernel) ?_ | refine awp_condM ?_ | refine And.intro ?_ ?_ | apply gQ_merge | apply gE_merge | exact EqV_w | exact EqE_w | exact EqV_ptr | exact EqE_ptr | exact EqV_msl | exact EqE_msl | exact EqV_agg | exact EqE_agg | exact EqV_fn | exact EqE_fn | exact EqV_gd | exact EqE_gd | refine gM_splitN ?_ ?_ | refine gM_split ?_ ?_ |  refine condM_splitDN ?_ ?_ | refine condM_splitD ?_ ?_ | refine condM_splitN ?_ ?_ | refine condM_split ?_ ?_ | refine condM_any ?_ ?_ | refine cw (c2) ?_ | refine cw (c3) ?_ | refine cw (c4) ?_ | refine cw (c5) ?_ | refine cw (unless_c _ _) ?_ | intro _) | (simp [*, hlt, cAcc]) | (refine cw_eq (c2) ?_ ?_; (· (simp [*]; done))) | (refine cw_eq (c3) ?_ ?_; (· (simp [*]; done))) | (refine cw_eq (c4) ?_ ?_; (· (simp [*]; done))) | (refine cw_eq (c5) ?_ ?_; (· (simp [*]; done))) | (refine cw_eq (unless_c _ _) ?_ ?_; (· (simp [*]; done))))
        all_goals first
          | exact inI64 (by omega) (by omega)
          | omega
          | (refine loopK_normal _ _ _ _ _ (k + 1) _ ?_ (by first | omega | (dsimp only; omega) | (simp; omega)) ?_; (· exact ⟨by omega, kj⟩); (refine le_of ?_ ?_ <;> first | trivial | (simp [*]; done)))
          | skip
      · rw [accsF_bad l k hlt he] at hj
        injection hj with hj1 hj2
        subst hj1
        rw [hj2] at c5 he
        clear hj2
        repeat' (first | (with_reducible first | refine awp_seq ?_ | refine awp_blockS ?_ | refine awp_blockC ?_ | refine awp_blockR ?_ | refine awp_skip ?_ | refine awp_ret ?_ | refine awp_exit ?_ | refine awp_region ?_ | refine awp_regionD (id := 7) 19 mixed (by decide +kernel) ?_ | refine awp_condM ?_ | refine And.intro ?_ ?_ | apply gQ_merge | apply gE_merge | exact EqV_w | exact EqE_w | exact EqV_ptr | exact EqE_ptr | exact EqV_msl | exact EqE_msl | exact EqV_agg | exact EqE_agg | exact EqV_fn | exact EqE_fn | exact EqV_gd | exact EqE_gd | refine gM_splitN ?_ ?_ | refine gM_split ?_ ?_ |  refine condM_splitDN ?_ ?_ | refine condM_splitD ?_ ?_ | refine condM_splitN ?_ ?_ | refine condM_split ?_ ?_ | refine condM_any ?_ ?_ | refine cw (c2) ?_ | refine cw (c3) ?_ | refine cw (c4) ?_ | refine cw (c5) ?_ | refine cw (unless_c _ _) ?_ | intro _) | (simp [*, hlt, cAcc, he]) | (refine cw_eq (c2) ?_ ?_; (· (simp [*]; done))) | (refine cw_eq (c3) ?_ ?_; (· (simp [*]; done))) | (refine cw_eq (c4) ?_ ?_; (· (simp [*]; done))) | (refine cw_eq (c5) ?_ ?_; (· (simp [*]; done))) | (refine cw_eq (unless_c _ _) ?_ ?_; (· (simp [*]; done))))
        all_goals first
          | exact inI64 (by omega) (by omega)
          | omega
          | skip
    · rw [accsF_end l k (by omega)] at hj
      injection hj with hj1 hj2
      subst hj1; subst hj2
      have hke : k = l.length := by omega
      subst hke
      clear hnm
      repeat' (first | (with_reducible first | refine awp_seq ?_ | refine awp_blockS ?_ | refine awp_blockC ?_ | refine awp_blockR ?_ | refine awp_skip ?_ | refine awp_ret ?_ | refine awp_exit ?_ | refine awp_region ?_ | refine awp_regionD (id := 7) 19 mixed (by decide +kernel) ?_ | refine awp_condM ?_ | refine And.intro ?_ ?_ | apply gQ_merge | apply gE_merge | exact EqV_w | exact EqE_w | exact EqV_ptr | exact EqE_ptr | exact EqV_msl | exact EqE_msl | exact EqV_agg | exact EqE_agg | exact EqV_fn | exact EqE_fn | exact EqV_gd | exact EqE_gd | refine gM_splitN ?_ ?_ | refine gM_split ?_ ?_ |  refine condM_splitDN ?_ ?_ | refine condM_splitD ?_ ?_ | refine condM_splitN ?_ ?_ | refine condM_split ?_ ?_ | refine condM_any ?_ ?_ | intro _) | (simp [*]))
      all_goals (refine finW_intro () ?_ ?_; (· first | exact ⟨rfl, rfl⟩ | trivial); (refine le_of ?_ ?_ <;> first | trivial | (simp [*]; done)))
  · obtain ⟨rfl, rfl⟩ := hf
    repeat' (first | (with_reducible first | refine awp_seq ?_ | refine awp_blockS ?_ | refine awp_blockC ?_ | refine awp_blockR ?_ | refine awp_skip ?_ | refine awp_ret ?_ | refine awp_exit ?_ | refine awp_region ?_ | refine awp_regionD (id := 7) 19 mixed (by decide +kernel) ?_ | refine awp_condM ?_ | refine And.intro ?_ ?_ | apply gQ_merge | apply gE_merge | exact EqV_w | exact EqE_w | exact EqV_ptr | exact EqE_ptr | exact EqV_msl | exact EqE_msl | exact EqV_agg | exact EqE_agg | exact EqV_fn | exact EqE_fn | exact EqV_gd | exact EqE_gd | refine gM_splitN ?_ ?_ | refine gM_split ?_ ?_ |  refine condM_splitDN ?_ ?_ | refine condM_splitD ?_ ?_ | refine condM_splitN ?_ ?_ | refine condM_split ?_ ?_ | refine condM_any ?_ ?_ | intro _) | (simp [*]))
end Go.Proofs.YtlcimflkjfbaoaaGreat
namespace Go.Proofs.YtlcimflkjfbaoaaGreat
open Go Go.Fi
set_option maxRecDepth 20000

/-! ### entries -/
def smallB (n most : Int) : Bool := winB n (-most) most
theorem small_c (n most : Int) (h0 : 0 ≤ most) (h1 : most ≤ 1000000000000000) : RealCall Tryz.prog 41 [.int .i64 n, .int .i64 most] (.bool (smallB n most)) true := by
  have c1 := within_c n (-most) most
  unfold smallB
  generalize winB n (-most) most = b at *
  refine realcall_intro Tryz.func41 (by kernel_rfl) rfl (Nat.le_of_ble_eq_true (by kernel_rfl)) ?_
  simp only [Tryz.results41, Tryz.ntmps41]
  repeat' (first | (with_reducible first | refine awp_seq ?_ | refine awp_blockS ?_ | refine awp_blockC ?_ | refine awp_blockR ?_ | refine awp_skip ?_ | refine awp_ret ?_ | refine awp_exit ?_ | refine awp_region ?_ | refine awp_condM ?_ | refine And.intro ?_ ?_ | apply gQ_merge | apply gE_merge | exact EqV_w | exact EqE_w | exact EqV_ptr | exact EqE_ptr | exact EqV_msl | exact EqE_msl | exact EqV_agg | exact EqE_agg | exact EqV_fn | exact EqE_fn | exact EqV_gd | exact EqE_gd | refine gM_splitN ?_ ?_ | refine gM_split ?_ ?_ |  refine condM_splitDN ?_ ?_ | refine condM_splitD ?_ ?_ | refine condM_splitN ?_ ?_ | refine condM_split ?_ ?_ | refine condM_any ?_ ?_ | refine cw (c1) ?_ | intro _) | (simp [*]) | (refine cw_eq (c1) ?_ ?_; (· (simp [*]; done))))
  all_goals exact inI64 (by omega) (by omega)
def dateE (n : Int) : Int := errUnless (winB n 0 100000) 2
def noteE (s : ByteArray) : Int := errUnless (nameB s) 4
theorem dateErr_c (n : Int) : RealCall Tryz.prog 24 [.int .i64 n] (.int .i64 (dateE n)) true := by
  unfold dateE
  refine realcall_intro Tryz.func24 (by kernel_rfl) rfl (Nat.le_of_ble_eq_true (by kernel_rfl)) ?_
  simp only [Tryz.results24, Tryz.ntmps24]
  repeat' (first | (with_reducible first | refine awp_seq ?_ | refine awp_blockS ?_ | refine awp_blockC ?_ | refine awp_blockR ?_ | refine awp_skip ?_ | refine awp_ret ?_ | refine awp_exit ?_ | refine awp_region ?_ | refine awp_condM ?_ | refine And.intro ?_ ?_ | apply gQ_merge | apply gE_merge | exact EqV_w | exact EqE_w | exact EqV_ptr | exact EqE_ptr | exact EqV_msl | exact EqE_msl | exact EqV_agg | exact EqE_agg | exact EqV_fn | exact EqE_fn | exact EqV_gd | exact EqE_gd | refine gM_splitN ?_ ?_ | refine gM_split ?_ ?_ |  refine condM_splitDN ?_ ?_ | refine condM_splitD ?_ ?_ | refine condM_splitN ?_ ?_ | refine condM_split ?_ ?_ | refine condM_any ?_ ?_ | refine cw (within_c _ _ _) ?_ | refine cw (unless_c _ _) ?_ | intro _) | (simp [*]) | (refine cw_eq (within_c _ _ _) ?_ ?_; (· (simp [*]; done))) | (refine cw_eq (unless_c _ _) ?_ ?_; (· (simp [*]; done))))
theorem noteErr_c (s : ByteArray) (hs : s.size < 1000000) : RealCall Tryz.prog 25 [.str s] (.int .i64 (noteE s)) true := by
  have c1 := isName_c s hs
  unfold noteE
  refine realcall_intro Tryz.func25 (by kernel_rfl) rfl (Nat.le_of_ble_eq_true (by kernel_rfl)) ?_
  simp only [Tryz.results25, Tryz.ntmps25]
  repeat' (first | (with_reducible first | refine awp_seq ?_ | refine awp_blockS ?_ | refine awp_blockC ?_ | refine awp_blockR ?_ | refine awp_skip ?_ | refine awp_ret ?_ | refine awp_exit ?_ | refine awp_region ?_ | refine awp_condM ?_ | refine And.intro ?_ ?_ | apply gQ_merge | apply gE_merge | exact EqV_w | exact EqE_w | exact EqV_ptr | exact EqE_ptr | exact EqV_msl | exact EqE_msl | exact EqV_agg | exact EqE_agg | exact EqV_fn | exact EqE_fn | exact EqV_gd | exact EqE_gd | refine gM_splitN ?_ ?_ | refine gM_split ?_ ?_ |  refine condM_splitDN ?_ ?_ | refine condM_splitD ?_ ?_ | refine condM_splitN ?_ ?_ | refine condM_split ?_ ?_ | refine condM_any ?_ ?_ | refine cw (c1) ?_ | refine cw (unless_c _ _) ?_ | intro _) | (simp [*]) | (refine cw_eq (c1) ?_ ?_; (· (simp [*]; done))) | (refine cw_eq (unless_c _ _) ?_ ?_; (· (simp [*]; done))))
def lineE (l : List Acc) (y : Line) : Int := firstS [errUnless (hasS l y.acc) 6, errUnless (!decide (y.amt = 0)) 11, errUnless (smallB y.amt 1000000000) 2]
def linesF (l : List Acc) : List Line → Nat → Int → Int × Int
  | [], _, s => (0, errUnless (decide (s = 0)) 27)
  | y :: r, i, s => if lineE l y = 0 then linesF l r (i + 1) (s + y.amt) else ((i : Int), lineE l y)
def headE (e : Entry) : Int := firstS [dateE e.date, noteE e.note, errUnless (decide ((2 : Int) ≤ e.lines.length)) 10, errUnless (decide ((e.lines.length : Int) ≤ 12)) 8]
def entryS (l : List Acc) (e : Entry) : Int × Int := if headE e = 0 then linesF l e.lines 0 0 else (0, headE e)
def sumA : List Line → Int
  | [] => 0
  | y :: r => y.amt + sumA r
@[simp] theorem sumA_nil : sumA [] = 0 := rfl
theorem sumA_snoc (y : Line) : ∀ l : List Line, sumA (l ++ [y]) = sumA l + y.amt
  | [] => by simp [sumA]
  | x :: l => by simp only [List.cons_append, sumA, sumA_snoc y l]; omega
theorem sumA_succ (l : List Line) (k : Nat) (h : k < l.length) : sumA (l.take (k + 1)) = sumA (l.take k) + (nth l k).amt := by
  rw [take_succ_nth l k h, sumA_snoc]
theorem linesF_bad (a : List Acc) (l : List Line) (k : Nat) (s : Int) (h : k < l.length) (hb : lineE a (nth l k) ≠ 0) : linesF a (l.drop k) k s = ((k : Int), lineE a (nth l k)) := by
  rw [drop_nth l k h]; simp only [linesF]; rw [if_neg hb]
theorem linesF_ok (a : List Acc) (l : List Line) (k : Nat) (s : Int) (h : k < l.length) (hb : lineE a (nth l k) = 0) : linesF a (l.drop k) k s = linesF a (l.drop (k + 1)) (k + 1) (s + (nth l k).amt) := by
  rw [drop_nth l k h]; simp only [linesF]; rw [if_pos hb]
theorem linesF_end (a : List Acc) (l : List Line) (k : Nat) (s : Int) (h : l.length ≤ k) : linesF a (l.drop k) k s = (0, errUnless (decide (s = 0)) 27) := by
  rw [List.drop_eq_nil_of_le h]; rfl
structure EntryIn (e : Entry) : Prop where
  note : e.note.size < 1000000
  len : e.lines.length < 10000
theorem unless_zero {b : Bool} {e : Int} (h : errUnless b e = 0) (he : e ≠ 0) : b = true := by
  cases b with
  | true => rfl
  | false => exact absurd h he
theorem firstS_zero {l : List Int} (h : firstS l = 0) : ∀ e ∈ l, e = 0 := by
  induction l with
  | nil => intro e he; cases he
  | cons x l ih =>
    intro e he
    unfold firstS at h
    split at h
    · rename_i hx
      rcases List.mem_cons.1 he with rfl | he
      · exact hx
      · exact ih h e he
    · rename_i hx; exact absurd h hx
theorem winB_iff {n lo hi : Int} : winB n lo hi = true ↔ lo ≤ n ∧ n ≤ hi := by simp [winB]
theorem headE_zero {e : Entry} (h : headE e = 0) : 0 ≤ e.date ∧ e.date ≤ 100000 ∧ nameB e.note = true ∧ 2 ≤ e.lines.length ∧ e.lines.length ≤ 12 := by
  have hz := firstS_zero h
  have h1 := winB_iff.1 (unless_zero (hz (dateE e.date) (by simp)) (by decide))
  have h2 := unless_zero (hz (noteE e.note) (by simp)) (by decide)
  have h3 := of_decide_eq_true (unless_zero (hz (errUnless (decide ((2 : Int) ≤ e.lines.length)) 10) (by simp)) (by decide))
  have h4 := of_decide_eq_true (unless_zero (hz (errUnless (decide ((e.lines.length : Int) ≤ 12)) 8) (by simp)) (by decide))
  exact ⟨h1.1, h1.2, h2, by omega, by omega⟩
theorem lineE_zero {l : List Acc} {y : Line} (h : lineE l y = 0) : hasS l y.acc = true ∧ y.amt ≠ 0 ∧ -1000000000 ≤ y.amt ∧ y.amt ≤ 1000000000 := by
  have hz := firstS_zero h
  have h1 := unless_zero (hz (errUnless (hasS l y.acc) 6) (by simp)) (by decide)
  have h2 := unless_zero (hz (errUnless (!decide (y.amt = 0)) 11) (by simp)) (by decide)
  have h3 := winB_iff.1 (unless_zero (hz (errUnless (smallB y.amt 1000000000) 2) (by simp)) (by decide))
  exact ⟨h1, by simpa using h2, h3.1, h3.2⟩
set_option maxHeartbeats 4000000 in
theorem entry_c (l : List Acc) (hl : l.length < 100000) (e : Entry) (he : EntryIn e) : RealCall Tryz.prog 33 [.sl l.length (cAccs l), .agg (cEntry e)] (pairI (entryS l e)) true := by
  have hn := he.note
  have hlen := he.len
  clear he
  unfold entryS pairI
  have c1 := dateErr_c e.date
  have c2 := noteErr_c e.note hn
  have c3 := first4_c (dateE e.date) (noteE e.note) (errUnless (decide ((2 : Int) ≤ e.lines.length)) 10) (errUnless (decide ((e.lines.length : Int) ≤ 12)) 8)
  change RealCall _ _ _ (.int .i64 (headE e)) true at c3
  obtain ⟨ed, en, el⟩ := e
  unfold cEntry
  dsimp only at *
  have hz : headE ⟨ed, en, el⟩ = 0 → el.length ≤ 12 := fun h => (headE_zero h).2.2.2.2
  by_cases h : headE ⟨ed, en, el⟩ = 0
  · have h12 := hz h
    clear hz
    rw [if_pos h]
    rw [h] at c3
    generalize hR : linesF l el 0 0 = R
    have kR : Keep (linesF l el 0 0 = R) := keep hR
    clear hR h
    obtain ⟨r1, r2⟩ := R
    refine realcall_intro Tryz.func33 (by kernel_rfl) rfl (Nat.le_of_ble_eq_true (by kernel_rfl)) ?_
    simp only [Tryz.results33, Tryz.ntmps33]
    repeat' (first | (with_reducible first | refine awp_seq ?_ | refine awp_blockS ?_ | refine awp_blockC ?_ | refine awp_blockR ?_ | refine awp_skip ?_ | refine awp_ret ?_ | refine awp_exit ?_ | refine awp_region ?_ | refine awp_regionD (id := 1) 19 mixed (by decide +kernel) ?_ | refine awp_regionD (id := 8) 16 mixed (by decide +kernel) ?_ | refine awp_condM ?_ | refine And.intro ?_ ?_ | apply gQ_merge | apply gE_merge | exact EqV_w | exact EqE_w | exact EqV_ptr | exact EqE_ptr | exact EqV_msl | exact EqE_msl | exact EqV_agg | exact EqE_agg | exact EqV_fn | exact EqE_fn | exact EqV_gd | exact EqE_gd | refine gM_splitN ?_ ?_ | refine gM_split ?_ ?_ |  refine condM_splitDN ?_ ?_ | refine condM_splitD ?_ ?_ | refine condM_splitN ?_ ?_ | refine condM_split ?_ ?_ | refine condM_any ?_ ?_ | refine cw (c1) ?_ | refine cw (c2) ?_ | refine cw (c3) ?_ | refine cw (unless_c _ _) ?_ | intro _) | (simp [*]) | (refine cw_eq (c1) ?_ ?_; (· (simp [*]; done))) | (refine cw_eq (c2) ?_ ?_; (· (simp [*]; done))) | (refine cw_eq (c3) ?_ ?_; (· (simp [*]; done))) | (refine cw_eq (unless_c _ _) ?_ ?_; (· (simp [*]; done))))
    refine awp_for3 (fun (k : Nat) => k ≤ el.length ∧ (linesF l (el.drop k) k (sumA (el.take k)) = (r1, r2) ∧ -(1000000000 * (k : Int)) ≤ sumA (el.take k) ∧ sumA (el.take k) ≤ 1000000000 * (k : Int))) [0, 33, 34] (fun (k : Nat) => [(35, .w false false (.int .i64 k)), (7, .w false false (.int .i64 (sumA (el.take k))))]) [] (fun (k : Nat) => []) (fun (k : Nat) => el.length - k) (fun (_u : Unit) => r1 = 0 ∧ r2 = errUnless (decide (sumA el = 0)) 27) [] (fun (_u : Unit) => [(7, .w false false (.int .i64 (sumA el)))]) [] (fun (_u : Unit) => []) (0) ⟨Nat.zero_le _, kR, by simp [sumA], by simp [sumA]⟩ (by simp) (by simp) (fun k hk => ?_) (fun _u hf => ?_)
    · obtain ⟨hk, hj, b1, b2⟩ := hk
      clear kR c1 c2 c3
      by_cases hlt : k < el.length
      · have hs := sumA_succ el k hlt
        have c2 := has_c l hl (nth el k).acc
        have c4 := small_c (nth el k).amt 1000000000 (by decide) (by decide)
        have c5 := first3_c (errUnless (hasS l (nth el k).acc) 6) (errUnless (!decide ((nth el k).amt = 0)) 11) (errUnless (smallB (nth el k).amt 1000000000) 2)
        change RealCall _ _ _ (.int .i64 (lineE l (nth el k))) true at c5
        by_cases he : lineE l (nth el k) = 0
        · obtain ⟨_, _, a1, a2⟩ := lineE_zero he
          rw [linesF_ok l el k _ hlt he, ← hs] at hj
          have kj := keep hj
          have ks := keep hs
          clear hj hs
          rw [he] at c5
          generalize hS : sumA (el.take k) = S at *
          repeat' (first | (with_reducible first | refine awp_seq ?_ | refine awp_blockS ?_ | refine awp_blockC ?_ | refine awp_blockR ?_ | refine awp_skip ?_ | refine awp_ret ?_ | refine awp_exit ?_ | refine awp_region ?_ | refine awp_regionD (id := 1) 19 mixed (by decide +kernel) ?_ | refine awp_regionD (id := 8) 16 mixed (by decide +kernel) ?_ | refine awp_condM ?_ | refine And.intro ?_ ?_ | apply gQ_merge | apply gE_merge | exact EqV_w | exact EqE_w | exact EqV_ptr | exact EqE_ptr | exact EqV_msl | exact EqE_msl | exact EqV_agg | exact EqE_agg | exact EqV_fn | exact EqE_fn | exact EqV_gd | exact EqE_gd | refine gM_splitN ?_ ?_ | refine gM_split ?_ ?_ |  refine condM_splitDN ?_ ?_ | refine condM_splitD ?_ ?_ | refine condM_splitN ?_ ?_ | refine condM_split ?_ ?_ | refine condM_any ?_ ?_ | refine cw (c2) ?_ | refine cw (c4) ?_ | refine cw (c5) ?_ | refine cw (unless_c _ _) ?_ | intro _) | (simp [*, hlt, cLine]) | (refine cw_eq (c2) ?_ ?_; (· (simp [*]; done))) | (refine cw_eq (c4) ?_ ?_; (· (simp [*]; done))) | (refine cw_eq (c5) ?_ ?_; (· (simp [*]; done))) | (refine cw_eq (unless_c _ _) ?_ ?_; (· (simp [*]; done))))
          all_goals first
            | exact inI64 (by omega) (by omega)
            | omega
            | (refine loopK_normal _ _ _ _ _ (k + 1) _ ?_ (by first | omega | (dsimp only; omega) | (simp; omega)) ?_; (· refine ⟨by omega, kj, ?_, ?_⟩ <;> (rw [show sumA (el.take (k + 1)) = _ from ks]; omega)); (refine le_of ?_ ?_ <;> first | trivial | (simp [*, show sumA (el.take (k + 1)) = _ from ks]; done)))
            | skip
        · rw [linesF_bad l el k _ hlt he] at hj
          injection hj with hj1 hj2
          subst hj1
          rw [hj2] at c5 he
          clear hj2 hs b1 b2
          repeat' (first | (with_reducible first | refine awp_seq ?_ | refine awp_blockS ?_ | refine awp_blockC ?_ | refine awp_blockR ?_ | refine awp_skip ?_ | refine awp_ret ?_ | refine awp_exit ?_ | refine awp_region ?_ | refine awp_regionD (id := 1) 19 mixed (by decide +kernel) ?_ | refine awp_regionD (id := 8) 16 mixed (by decide +kernel) ?_ | refine awp_condM ?_ | refine And.intro ?_ ?_ | apply gQ_merge | apply gE_merge | exact EqV_w | exact EqE_w | exact EqV_ptr | exact EqE_ptr | exact EqV_msl | exact EqE_msl | exact EqV_agg | exact EqE_agg | exact EqV_fn | exact EqE_fn | exact EqV_gd | exact EqE_gd | refine gM_splitN ?_ ?_ | refine gM_split ?_ ?_ |  refine condM_splitDN ?_ ?_ | refine condM_splitD ?_ ?_ | refine condM_splitN ?_ ?_ | refine condM_split ?_ ?_ | refine condM_any ?_ ?_ | refine cw (c2) ?_ | refine cw (c4) ?_ | refine cw (c5) ?_ | refine cw (unless_c _ _) ?_ | intro _) | (simp [*, hlt, he, cLine]) | (refine cw_eq (c2) ?_ ?_; (· (simp [*]; done))) | (refine cw_eq (c4) ?_ ?_; (· (simp [*]; done))) | (refine cw_eq (c5) ?_ ?_; (· (simp [*]; done))) | (refine cw_eq (unless_c _ _) ?_ ?_; (· (simp [*]; done))))
          all_goals first
            | exact inI64 (by omega) (by omega)
            | omega
            | skip
      · rw [linesF_end l el k _ (by omega)] at hj
        injection hj with hj1 hj2
        have hke : k = el.length := by omega
        subst hke
        rw [List.take_length] at *
        have kj := keep hj1
        have kj2 := keep hj2.symm
        clear hj1 hj2
        repeat' (first | (with_reducible first | refine awp_seq ?_ | refine awp_blockS ?_ | refine awp_blockC ?_ | refine awp_blockR ?_ | refine awp_skip ?_ | refine awp_ret ?_ | refine awp_exit ?_ | refine awp_region ?_ | refine awp_regionD (id := 1) 19 mixed (by decide +kernel) ?_ | refine awp_regionD (id := 8) 16 mixed (by decide +kernel) ?_ | refine awp_condM ?_ | refine And.intro ?_ ?_ | apply gQ_merge | apply gE_merge | exact EqV_w | exact EqE_w | exact EqV_ptr | exact EqE_ptr | exact EqV_msl | exact EqE_msl | exact EqV_agg | exact EqE_agg | exact EqV_fn | exact EqE_fn | exact EqV_gd | exact EqE_gd | refine gM_splitN ?_ ?_ | refine gM_split ?_ ?_ |  refine condM_splitDN ?_ ?_ | refine condM_splitD ?_ ?_ | refine condM_splitN ?_ ?_ | refine condM_split ?_ ?_ | refine condM_any ?_ ?_ | intro _) | (simp [*]))
        all_goals (refine finW_intro () ?_ ?_; (· first | exact ⟨(show 0 = r1 from kj).symm, kj2⟩ | trivial); (refine le_of ?_ ?_ <;> first | trivial | (simp [*, List.take_length]; done)))
    · obtain ⟨rfl, rfl⟩ := hf
      clear kR
      repeat' (first | (with_reducible first | refine awp_seq ?_ | refine awp_blockS ?_ | refine awp_blockC ?_ | refine awp_blockR ?_ | refine awp_skip ?_ | refine awp_ret ?_ | refine awp_exit ?_ | refine awp_region ?_ | refine awp_regionD (id := 1) 19 mixed (by decide +kernel) ?_ | refine awp_regionD (id := 8) 16 mixed (by decide +kernel) ?_ | refine awp_condM ?_ | refine And.intro ?_ ?_ | apply gQ_merge | apply gE_merge | exact EqV_w | exact EqE_w | exact EqV_ptr | exact EqE_ptr | exact EqV_msl | exact EqE_msl | exact EqV_agg | exact EqE_agg | exact EqV_fn | exact EqE_fn | exact EqV_gd | exact EqE_gd | refine gM_splitN ?_ ?_ | refine gM_split ?_ ?_ |  refine condM_splitDN ?_ ?_ | refine condM_splitD ?_ ?_ | refine condM_splitN ?_ ?_ | refine condM_split ?_ ?_ | refine condM_any ?_ ?_ | refine cw (unless_c _ _) ?_ | intro _) | (simp [*]) | (refine cw_eq (unless_c _ _) ?_ ?_; (· (simp [*]; done))))
  · rw [if_neg h]
    clear hz
    generalize headE ⟨ed, en, el⟩ = H at *
    refine realcall_intro Tryz.func33 (by kernel_rfl) rfl (Nat.le_of_ble_eq_true (by kernel_rfl)) ?_
    simp only [Tryz.results33, Tryz.ntmps33]
    repeat' (first | (with_reducible first | refine awp_seq ?_ | refine awp_blockS ?_ | refine awp_blockC ?_ | refine awp_blockR ?_ | refine awp_skip ?_ | refine awp_ret ?_ | refine awp_exit ?_ | refine awp_region ?_ | refine awp_regionD (id := 1) 19 mixed (by decide +kernel) ?_ | refine awp_regionD (id := 8) 16 mixed (by decide +kernel) ?_ | refine awp_condM ?_ | refine And.intro ?_ ?_ | apply gQ_merge | apply gE_merge | exact EqV_w | exact EqE_w | exact EqV_ptr | exact EqE_ptr | exact EqV_msl | exact EqE_msl | exact EqV_agg | exact EqE_agg | exact EqV_fn | exact EqE_fn | exact EqV_gd | exact EqE_gd | refine gM_splitN ?_ ?_ | refine gM_split ?_ ?_ |  refine condM_splitDN ?_ ?_ | refine condM_splitD ?_ ?_ | refine condM_splitN ?_ ?_ | refine condM_split ?_ ?_ | refine condM_any ?_ ?_ | refine cw (c1) ?_ | refine cw (c2) ?_ | refine cw (c3) ?_ | refine cw (unless_c _ _) ?_ | intro _) | (simp [*, h]) | (refine cw_eq (c1) ?_ ?_; (· (simp [*]; done))) | (refine cw_eq (c2) ?_ ?_; (· (simp [*]; done))) | (refine cw_eq (c3) ?_ ?_; (· (simp [*]; done))) | (refine cw_eq (unless_c _ _) ?_ ?_; (· (simp [*]; done))))
end Go.Proofs.YtlcimflkjfbaoaaGreat
namespace Go.Proofs.YtlcimflkjfbaoaaGreat
open Go Go.Fi
set_option maxRecDepth 20000

/-! ### entries of accounts that are checked, and books -/
theorem accountsErr_c (l : List Acc) (hl : AccsIn l) : RealCall Tryz.prog 53 [.sl l.length (cAccs l)] (.int .i64 (accsS l).2) true := by
  have c1 := checkAccounts_c l hl
  clear hl
  unfold pairI at c1
  refine realcall_intro Tryz.func53 (by kernel_rfl) rfl (Nat.le_of_ble_eq_true (by kernel_rfl)) ?_
  simp only [Tryz.results53, Tryz.ntmps53]
  repeat' (first | (with_reducible first | refine awp_seq ?_ | refine awp_blockS ?_ | refine awp_blockC ?_ | refine awp_blockR ?_ | refine awp_skip ?_ | refine awp_ret ?_ | refine awp_exit ?_ | refine awp_region ?_ | refine awp_condM ?_ | refine And.intro ?_ ?_ | apply gQ_merge | apply gE_merge | exact EqV_w | exact EqE_w | exact EqV_ptr | exact EqE_ptr | exact EqV_msl | exact EqE_msl | exact EqV_agg | exact EqE_agg | exact EqV_fn | exact EqE_fn | exact EqV_gd | exact EqE_gd | refine gM_splitN ?_ ?_ | refine gM_split ?_ ?_ |  refine condM_splitDN ?_ ?_ | refine condM_splitD ?_ ?_ | refine condM_splitN ?_ ?_ | refine condM_split ?_ ?_ | refine condM_any ?_ ?_ | refine cw (c1) ?_ | intro _) | (simp [*]) | (refine cw_eq (c1) ?_ ?_; (· (simp [*]; done))))
end Go.Proofs.YtlcimflkjfbaoaaGreat

