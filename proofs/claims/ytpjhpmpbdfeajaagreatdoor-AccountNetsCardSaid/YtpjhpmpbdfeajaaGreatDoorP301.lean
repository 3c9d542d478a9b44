/- Contracts of functions for this claim: lemmas alone. -/
import Derived.Test.YtpjhpmpbdfeajaaGreatDoorP18
import Derived.Test.YtpjhpmpbdfeajaaGreatDoorP20
import Derived.Test.YtpjhpmpbdfeajaaGreatDoorP21
import Derived.Test.YtpjhpmpbdfeajaaGreatDoorP24
import Derived.Test.YtpjhpmpbdfeajaaGreatDoorP3
import Derived.Test.YtpjhpmpbdfeajaaGreatDoorLx
set_option linter.unusedSimpArgs false
set_option linter.unusedVariables false
namespace Go.Proofs.YtpjhpmpbdfeajaaGreatDoor
open Go Go.Fi
set_option maxRecDepth 20000

/-! ### entries reversed: the program's, the document's -/
def negL (l : List Line) : List Line := l.map fun y => ⟨y.acc, -y.amt⟩
@[simp] theorem negL_len (l : List Line) : (negL l).length = l.length := by simp [negL]
theorem lA_1 (l : List Line) (k : Nat) (h : k < l.length) : nthA (lA l) (k * 2 + 1) = .w false false (.int .i64 (nth l k).amt) := by
  unfold lA; rw [nthA_map _ _ _ (by simp; omega), cLines_1 l k h]
theorem negL_len' (L : List Line) : (negL L).length = L.length := by simp [negL]
def linesQ (ls : List Line) : Int := firstS [errUnless (decide ((ls.length : Int) ≤ 12)) 8, errUnless (!ls.any greatB) 2]
theorem linesErr_c (ls : List Line) (hl : ls.length < 100000) : RealCall Tryz.prog 55 [.sl ls.length (cLines ls)] (.int .i64 (linesQ ls)) true := by
  have c1 := containsFuncL_c ls hl 103 [] greatB le1_c
  have c2 := first2_c (errUnless (decide ((ls.length : Int) ≤ 12)) 8) (errUnless (!ls.any greatB) 2)
  change RealCall _ _ _ (.int .i64 (linesQ ls)) true at c2
  generalize linesQ ls = V at *
  generalize ls.any greatB = G at *
  refine realcall_intro Tryz.func55 (by kernel_rfl) rfl (Nat.le_of_ble_eq_true (by kernel_rfl)) ?_
  simp only [Tryz.results55, Tryz.ntmps55]
  repeat' (first | (with_reducible first | refine awp_seq ?_ | refine awp_blockS ?_ | refine awp_blockC ?_ | refine awp_blockR ?_ | refine awp_skip ?_ | refine awp_ret ?_ | refine awp_exit ?_ | refine awp_region ?_ | refine awp_condM ?_ | refine And.intro ?_ ?_ | apply gQ_merge | apply gE_merge | exact EqV_w | exact EqE_w | exact EqV_ptr | exact EqE_ptr | exact EqV_msl | exact EqE_msl | exact EqV_agg | exact EqE_agg | exact EqV_fn | exact EqE_fn | exact EqV_gd | exact EqE_gd | refine gM_splitN ?_ ?_ | refine gM_split ?_ ?_ |  refine condM_splitDN ?_ ?_ | refine condM_splitD ?_ ?_ | refine condM_splitN ?_ ?_ | refine condM_split ?_ ?_ | refine condM_any ?_ ?_ | refine cw (c1) ?_ | refine cw (c2) ?_ | refine cw (unless_c _ _) ?_ | intro _) | (simp [*]) | (refine cw_eq (c1) ?_ ?_; (· (simp [*]; done))) | (refine cw_eq (c2) ?_ ?_; (· (simp [*]; done))) | (refine cw_eq (unless_c _ _) ?_ ?_; (· (simp [*]; done))))
theorem hasText_c (l : List ByteArray) (hl : l.length < 100000) (s : ByteArray) : RealCall Tryz.prog 51 [.sl l.length (strP l), .str s] (.bool (Lib.containsS l s)) true := by
  have q1 : ∀ k, k < l.length → nth l k = s → Lib.containsS l s = true := fun k hk h => (Lib.containsS_iff l s).2 (by
    rw [← h]
    simp only [nth, List.getD_eq_getElem?_getD, List.getElem?_eq_getElem hk, Option.getD_some]
    exact List.getElem_mem hk)
  have q0 : (∀ k, k < l.length → ¬ nth l k = s) → Lib.containsS l s = false := fun h => by
    cases hc : Lib.containsS l s with
    | false => rfl
    | true =>
      obtain ⟨k, hk, e⟩ := mem_nth ((Lib.containsS_iff l s).1 hc)
      exact absurd e (h k hk)
  generalize Lib.containsS l s = R at *
  have k1 := keep q1
  have k0 := keep q0
  clear q1 q0
  have hsl : (strP l).length = l.length := by simp [strP]
  have hg : ∀ k, k < l.length → nthP (strP l) k = .str (nth l k) := fun k hk => nthP_map _ l k hk
  refine realcall_intro Tryz.func51 (by kernel_rfl) rfl (Nat.le_of_ble_eq_true (by kernel_rfl)) ?_
  simp only [Tryz.results51, Tryz.ntmps51]
  repeat' (first | (with_reducible first | refine awp_seq ?_ | refine awp_blockS ?_ | refine awp_blockC ?_ | refine awp_blockR ?_ | refine awp_skip ?_ | refine awp_ret ?_ | refine awp_exit ?_ | refine awp_region ?_ | refine awp_condM ?_ | refine And.intro ?_ ?_ | apply gQ_merge | apply gE_merge | exact EqV_w | exact EqE_w | exact EqV_ptr | exact EqE_ptr | exact EqV_msl | exact EqE_msl | exact EqV_agg | exact EqE_agg | exact EqV_fn | exact EqE_fn | exact EqV_gd | exact EqE_gd | refine gM_splitN ?_ ?_ | refine gM_split ?_ ?_ |  refine condM_splitDN ?_ ?_ | refine condM_splitD ?_ ?_ | refine condM_splitN ?_ ?_ | refine condM_split ?_ ?_ | refine condM_any ?_ ?_ | intro _) | (simp [*]))
  refine awp_for3 (fun (k : Nat) => k ≤ l.length ∧ (∀ j, j < k → ¬ nth l j = s)) [0, 1] (fun (k : Nat) => [(5, .w false false (.int .i64 k))]) [] (fun (k : Nat) => []) (fun (k : Nat) => l.length - k) (fun (_u : Unit) => ∀ j, j < l.length → ¬ nth l j = s) [] (fun (_u : Unit) => []) [] (fun (_u : Unit) => []) (0) ⟨Nat.zero_le _, fun j hj => absurd hj (Nat.not_lt_zero _)⟩ (by simp) (by simp) (fun k hk => ?_) (fun _u hf => ?_)
  · obtain ⟨hk, hj⟩ := hk
    have kj := keep hj
    clear hj
    by_cases hlt : k < l.length
    · have hgk := hg k hlt
      clear hg
      by_cases hq : nth l k = s
      · have hR := (show ∀ k, k < l.length → nth l k = s → R = true from k1) k hlt hq
        subst hR
        clear k1 k0
        repeat' (first | (with_reducible first | refine awp_seq ?_ | refine awp_blockS ?_ | refine awp_blockC ?_ | refine awp_blockR ?_ | refine awp_skip ?_ | refine awp_ret ?_ | refine awp_exit ?_ | refine awp_region ?_ | refine awp_condM ?_ | refine And.intro ?_ ?_ | apply gQ_merge | apply gE_merge | exact EqV_w | exact EqE_w | exact EqV_ptr | exact EqE_ptr | exact EqV_msl | exact EqE_msl | exact EqV_agg | exact EqE_agg | exact EqV_fn | exact EqE_fn | exact EqV_gd | exact EqE_gd | refine gM_splitN ?_ ?_ | refine gM_split ?_ ?_ |  refine condM_splitDN ?_ ?_ | refine condM_splitD ?_ ?_ | refine condM_splitN ?_ ?_ | refine condM_split ?_ ?_ | refine condM_any ?_ ?_ | intro _) | (simp [*, hlt, hgk, hq]))
        all_goals try first | exact inI64 (by omega) (by omega) | omega
      · have kj2 : Keep (∀ j, j < k + 1 → ¬ nth l j = s) := keep (fun j hj => by
          rcases Nat.lt_or_eq_of_le (Nat.le_of_lt_succ hj) with h | h
          · exact (show ∀ j, j < k → ¬ nth l j = s from kj) j h
          · rw [h]; exact hq)
        clear k1 k0
        repeat' (first | (with_reducible first | refine awp_seq ?_ | refine awp_blockS ?_ | refine awp_blockC ?_ | refine awp_blockR ?_ | refine awp_skip ?_ | refine awp_ret ?_ | refine awp_exit ?_ | refine awp_region ?_ | refine awp_condM ?_ | refine And.intro ?_ ?_ | apply gQ_merge | apply gE_merge | exact EqV_w | exact EqE_w | exact EqV_ptr | exact EqE_ptr | exact EqV_msl | exact EqE_msl | exact EqV_agg | exact EqE_agg | exact EqV_fn | exact EqE_fn | exact EqV_gd | exact EqE_gd | refine gM_splitN ?_ ?_ | refine gM_split ?_ ?_ |  refine condM_splitDN ?_ ?_ | refine condM_splitD ?_ ?_ | refine condM_splitN ?_ ?_ | refine condM_split ?_ ?_ | refine condM_any ?_ ?_ | intro _) | (simp [*, hlt, hgk, hq]))
        all_goals try first | exact inI64 (by omega) (by omega) | omega
        all_goals (refine loopK_normal _ _ _ _ _ (k + 1) _ ?_ (by first | omega | (dsimp only; omega) | (simp; omega)) ?_; (· exact ⟨by omega, kj2⟩); (refine le_of ?_ ?_ <;> first | trivial | (simp [*]; done)))
    · have hke : k = l.length := by omega
      subst hke
      clear k1 k0 hg
      repeat' (first | (with_reducible first | refine awp_seq ?_ | refine awp_blockS ?_ | refine awp_blockC ?_ | refine awp_blockR ?_ | refine awp_skip ?_ | refine awp_ret ?_ | refine awp_exit ?_ | refine awp_region ?_ | refine awp_condM ?_ | refine And.intro ?_ ?_ | apply gQ_merge | apply gE_merge | exact EqV_w | exact EqE_w | exact EqV_ptr | exact EqE_ptr | exact EqV_msl | exact EqE_msl | exact EqV_agg | exact EqE_agg | exact EqV_fn | exact EqE_fn | exact EqV_gd | exact EqE_gd | refine gM_splitN ?_ ?_ | refine gM_split ?_ ?_ |  refine condM_splitDN ?_ ?_ | refine condM_splitD ?_ ?_ | refine condM_splitN ?_ ?_ | refine condM_split ?_ ?_ | refine condM_any ?_ ?_ | intro _) | (simp [*]))
      all_goals (refine finW_intro () ?_ ?_; (· exact kj); (refine le_of ?_ ?_ <;> first | trivial | (simp [*]; done)))
  · have hR := (show (∀ k, k < l.length → ¬ nth l k = s) → R = false from k0) hf
    subst hR
    clear k1 k0 hf hg
    repeat' (first | (with_reducible first | refine awp_seq ?_ | refine awp_blockS ?_ | refine awp_blockC ?_ | refine awp_blockR ?_ | refine awp_skip ?_ | refine awp_ret ?_ | refine awp_exit ?_ | refine awp_region ?_ | refine awp_condM ?_ | refine And.intro ?_ ?_ | apply gQ_merge | apply gE_merge | exact EqV_w | exact EqE_w | exact EqV_ptr | exact EqE_ptr | exact EqV_msl | exact EqE_msl | exact EqV_agg | exact EqE_agg | exact EqV_fn | exact EqE_fn | exact EqV_gd | exact EqE_gd | refine gM_splitN ?_ ?_ | refine gM_split ?_ ?_ |  refine condM_splitDN ?_ ?_ | refine condM_splitD ?_ ?_ | refine condM_splitN ?_ ?_ | refine condM_split ?_ ?_ | refine condM_any ?_ ?_ | intro _) | (simp [*]))
theorem tooMuch_c (e : Entry) (hl : e.lines.length < 100000) : RealCall Tryz.prog 62 [.agg (cEntry e)] (.bool (muchB e)) true := by
  have q1 : ∀ k, k < e.lines.length → greatB (nth e.lines k) = true → muchB e = true := fun k hk h => by
    unfold muchB
    rw [List.any_eq_true.2 ⟨nth e.lines k, by
      simp only [nth, List.getD_eq_getElem?_getD, List.getElem?_eq_getElem hk, Option.getD_some]
      exact List.getElem_mem hk, h⟩]
    rfl
  have q0 : (∀ k, k < e.lines.length → greatB (nth e.lines k) = false) → muchB e = decide (12 < (e.lines.length : Int)) := fun h => by
    unfold muchB
    have : e.lines.any greatB = false := by
      cases ha : e.lines.any greatB with
      | false => rfl
      | true =>
        obtain ⟨y, hy, hg⟩ := List.any_eq_true.1 ha
        obtain ⟨k, hk, rfl⟩ := mem_nth hy
        rw [h k hk] at hg; cases hg
    rw [this, Bool.false_or]
    exact decide_eq_decide.2 (by omega)
  generalize muchB e = R at *
  have k1 := keep q1
  have k0 := keep q0
  clear q1 q0
  obtain ⟨ed, en, el⟩ := e
  unfold cEntry
  dsimp only at *
  refine realcall_intro Tryz.func62 (by kernel_rfl) rfl (Nat.le_of_ble_eq_true (by kernel_rfl)) ?_
  simp only [Tryz.results62, Tryz.ntmps62]
  repeat' (first | (with_reducible first | refine awp_seq ?_ | refine awp_blockS ?_ | refine awp_blockC ?_ | refine awp_blockR ?_ | refine awp_skip ?_ | refine awp_ret ?_ | refine awp_exit ?_ | refine awp_region ?_ | refine awp_condM ?_ | refine And.intro ?_ ?_ | apply gQ_merge | apply gE_merge | exact EqV_w | exact EqE_w | exact EqV_ptr | exact EqE_ptr | exact EqV_msl | exact EqE_msl | exact EqV_agg | exact EqE_agg | exact EqV_fn | exact EqE_fn | exact EqV_gd | exact EqE_gd | refine gM_splitN ?_ ?_ | refine gM_split ?_ ?_ |  refine condM_splitDN ?_ ?_ | refine condM_splitD ?_ ?_ | refine condM_splitN ?_ ?_ | refine condM_split ?_ ?_ | refine condM_any ?_ ?_ | intro _) | (simp [*]))
  refine awp_for3 (fun (k : Nat) => k ≤ el.length ∧ (∀ j, j < k → greatB (nth el j) = false)) [1] (fun (k : Nat) => [(3, .w false false (.int .i64 k))]) [0] (fun (k : Nat) => []) (fun (k : Nat) => el.length - k) (fun (_u : Unit) => ∀ j, j < el.length → greatB (nth el j) = false) [1] (fun (_u : Unit) => []) [0] (fun (_u : Unit) => []) (0) ⟨Nat.zero_le _, fun j hj => absurd hj (Nat.not_lt_zero _)⟩ (by simp) (by simp) (fun k hk => ?_) (fun _u hf => ?_)
  · obtain ⟨hk, hj⟩ := hk
    have kj := keep hj
    clear hj
    by_cases hlt : k < el.length
    · have c1 := rSmall_c (nth el k).amt 1000000000 (by decide) (by decide)
      cases hb : smallB (nth el k).amt 1000000000 with
      | true =>
        rw [hb] at c1
        have kj2 : Keep (∀ j, j < k + 1 → greatB (nth el j) = false) := keep (fun j hj => by
          rcases Nat.lt_or_eq_of_le (Nat.le_of_lt_succ hj) with h | h
          · exact (show ∀ j, j < k → greatB (nth el j) = false from kj) j h
          · rw [h]; unfold greatB; rw [hb]; rfl)
        clear hb k1 k0
        repeat' (first | (with_reducible first | refine awp_seq ?_ | refine awp_blockS ?_ | refine awp_blockC ?_ | refine awp_blockR ?_ | refine awp_skip ?_ | refine awp_ret ?_ | refine awp_exit ?_ | refine awp_region ?_ | refine awp_condM ?_ | refine And.intro ?_ ?_ | apply gQ_merge | apply gE_merge | exact EqV_w | exact EqE_w | exact EqV_ptr | exact EqE_ptr | exact EqV_msl | exact EqE_msl | exact EqV_agg | exact EqE_agg | exact EqV_fn | exact EqE_fn | exact EqV_gd | exact EqE_gd | refine gM_splitN ?_ ?_ | refine gM_split ?_ ?_ |  refine condM_splitDN ?_ ?_ | refine condM_splitD ?_ ?_ | refine condM_splitN ?_ ?_ | refine condM_split ?_ ?_ | refine condM_any ?_ ?_ | refine cw (c1) ?_ | intro _) | (simp [*, hlt]) | (refine cw_eq (c1) ?_ ?_; (· (simp [*]; done))))
        all_goals try first | exact inI64 (by omega) (by omega) | omega
        all_goals (refine loopK_normal _ _ _ _ _ (k + 1) _ ?_ (by first | omega | (dsimp only; omega) | (simp; omega)) ?_; (· exact ⟨by omega, kj2⟩); (refine le_of ?_ ?_ <;> first | trivial | (simp [*]; done)))
      | false =>
        rw [hb] at c1
        have hR := (show ∀ k, k < el.length → greatB (nth el k) = true → R = true from k1) k hlt (by unfold greatB; rw [hb]; rfl)
        subst hR
        clear hb k1 k0
        repeat' (first | (with_reducible first | refine awp_seq ?_ | refine awp_blockS ?_ | refine awp_blockC ?_ | refine awp_blockR ?_ | refine awp_skip ?_ | refine awp_ret ?_ | refine awp_exit ?_ | refine awp_region ?_ | refine awp_condM ?_ | refine And.intro ?_ ?_ | apply gQ_merge | apply gE_merge | exact EqV_w | exact EqE_w | exact EqV_ptr | exact EqE_ptr | exact EqV_msl | exact EqE_msl | exact EqV_agg | exact EqE_agg | exact EqV_fn | exact EqE_fn | exact EqV_gd | exact EqE_gd | refine gM_splitN ?_ ?_ | refine gM_split ?_ ?_ |  refine condM_splitDN ?_ ?_ | refine condM_splitD ?_ ?_ | refine condM_splitN ?_ ?_ | refine condM_split ?_ ?_ | refine condM_any ?_ ?_ | refine cw (c1) ?_ | intro _) | (simp [*, hlt]) | (refine cw_eq (c1) ?_ ?_; (· (simp [*]; done))))
        all_goals try first | exact inI64 (by omega) (by omega) | omega
    · have hke : k = el.length := by omega
      subst hke
      clear k1 k0
      repeat' (first | (with_reducible first | refine awp_seq ?_ | refine awp_blockS ?_ | refine awp_blockC ?_ | refine awp_blockR ?_ | refine awp_skip ?_ | refine awp_ret ?_ | refine awp_exit ?_ | refine awp_region ?_ | refine awp_condM ?_ | refine And.intro ?_ ?_ | apply gQ_merge | apply gE_merge | exact EqV_w | exact EqE_w | exact EqV_ptr | exact EqE_ptr | exact EqV_msl | exact EqE_msl | exact EqV_agg | exact EqE_agg | exact EqV_fn | exact EqE_fn | exact EqV_gd | exact EqE_gd | refine gM_splitN ?_ ?_ | refine gM_split ?_ ?_ |  refine condM_splitDN ?_ ?_ | refine condM_splitD ?_ ?_ | refine condM_splitN ?_ ?_ | refine condM_split ?_ ?_ | refine condM_any ?_ ?_ | intro _) | (simp [*]))
      all_goals (refine finW_intro () ?_ ?_; (· exact kj); (refine le_of ?_ ?_ <;> first | trivial | (simp [*]; done)))
  · have hR := (show (∀ k, k < el.length → greatB (nth el k) = false) → R = decide (12 < (el.length : Int)) from k0) hf
    subst hR
    clear hf k1 k0
    repeat' (first | (with_reducible first | refine awp_seq ?_ | refine awp_blockS ?_ | refine awp_blockC ?_ | refine awp_blockR ?_ | refine awp_skip ?_ | refine awp_ret ?_ | refine awp_exit ?_ | refine awp_region ?_ | refine awp_condM ?_ | refine And.intro ?_ ?_ | apply gQ_merge | apply gE_merge | exact EqV_w | exact EqE_w | exact EqV_ptr | exact EqE_ptr | exact EqV_msl | exact EqE_msl | exact EqV_agg | exact EqE_agg | exact EqV_fn | exact EqE_fn | exact EqV_gd | exact EqE_gd | refine gM_splitN ?_ ?_ | refine gM_split ?_ ?_ |  refine condM_splitDN ?_ ?_ | refine condM_splitD ?_ ?_ | refine condM_splitN ?_ ?_ | refine condM_split ?_ ?_ | refine condM_any ?_ ?_ | intro _) | (simp [*]))
def negK (l : List Line) (k : Nat) : List Line := negL (l.take k) ++ l.drop k
@[simp] theorem negK_zero (l : List Line) : negK l 0 = l := by simp [negK, negL]
theorem negK_all (l : List Line) : negK l l.length = negL l := by simp [negK]
@[simp] theorem negK_len (l : List Line) (k : Nat) : (negK l k).length = l.length := by
  simp [negK, negL]; omega
theorem nth_negK (l : List Line) (k : Nat) (h : k < l.length) : nth (negK l k) k = nth l k := by
  unfold negK negL
  simp only [nth, List.getD_eq_getElem?_getD]
  rw [List.getElem?_append_right (by simp; omega)]
  simp [Nat.min_eq_left (Nat.le_of_lt h)]
theorem negK_succ (l : List Line) (k : Nat) (h : k < l.length) : negK l (k + 1) = (negK l k).set k ⟨(nth l k).acc, -(nth l k).amt⟩ := by
  unfold negK negL
  rw [take_succ_nth l k h, drop_nth l k h, List.map_append, List.set_append_right _ _ (by simp; omega)]
  simp [Nat.min_eq_left (Nat.le_of_lt h)]
theorem cLines_set1 (v : Int) : ∀ (l : List Line) (k : Nat), k < l.length → (cLines l).set (k * 2 + 1) (.int .i64 v) = cLines (l.set k ⟨(nth l k).acc, v⟩)
  | x :: r, 0, _ => rfl
  | x :: r, k + 1, h => by
    rw [List.set_cons_succ, show nth (x :: r) (k + 1) = nth r k from rfl]
    have ih := cLines_set1 v r k (by simpa using h)
    show (PV.str x.acc :: PV.int .i64 x.amt :: cLines r).set ((k + 1) * 2 + 1) (.int .i64 v) = PV.str x.acc :: PV.int .i64 x.amt :: cLines _
    rw [← ih, show (k + 1) * 2 + 1 = (k * 2 + 1) + 1 + 1 by omega, List.set_cons_succ, List.set_cons_succ]
theorem lA_set1 (l : List Line) (k : Nat) (v : Int) (h : k < l.length) : (lA l).set (k * 2 + 1) (.w false false (.int .i64 v)) = lA (l.set k ⟨(nth l k).acc, v⟩) := by
  unfold lA; rw [← cLines_set1 v l k h, List.map_set]
@[simp] theorem lA_frs : ∀ l : List Line, AV.frs.frsL (lA l) = true
  | [] => rfl
  | x :: l => by
    have ih := lA_frs l
    show (AV.frs (.w false false (.str x.acc)) && (AV.frs (.w false false (.int .i64 x.amt)) && AV.frs.frsL (lA l))) = true
    rw [ih]; rfl
@[simp] theorem lA_sh (n : Nat) (l : List Line) : AV.sh.shL n (lA l) = lA l := shL_map n false false _
@[simp] theorem lA_ones : ∀ l : List Line, ones (lA l) = true
  | [] => rfl
  | x :: l => by
    have ih := lA_ones l
    show (AV.one (.w false false (.str x.acc)) && (AV.one (.w false false (.int .i64 x.amt)) && ones (lA l))) = true
    rw [ih]; rfl
theorem cLines_lA (l : List Line) : (cLines l).map (AV.w false false) = lA l := rfl
theorem clone_mk (l : List Line) (h : l.length < 100000) : MkCall Tryz.prog 134 [.sl l.length (cLines l)] [lA l] (.msl 0 (l.length * 2) 2 0 l.length) := by
  refine mkcall_intro 0 [] Tryz.func134 (by kernel_rfl) rfl (Nat.le_of_ble_eq_true (by kernel_rfl)) (by simp) (by simp) ?_
  simp only [Tryz.results134, Tryz.ntmps134]
  refine awp_seq ?_
  refine awp_region ?_
  simp
  refine awp_seq ?_
  refine awp_seq ?_
  refine awp_nil (ow := false) (fl := false) (k := l.length) (cells := cLines l) Tryz.underlying38 ?_ ?_ ?_ ?_
  · simp
  · decide
  · decide
  intro b hb
  cases b with
  | true =>
    have hl : l = [] := List.eq_nil_of_length_eq_zero (hb rfl).1
    subst hl
    repeat' (first | (with_reducible first | refine awp_seq ?_ | refine awp_blockS ?_ | refine awp_blockC ?_ | refine awp_blockR ?_ | refine awp_skip ?_ | refine awp_ret ?_ | refine awp_exit ?_ | refine awp_region ?_ | refine awp_condM ?_ | refine And.intro ?_ ?_ | refine gE_splitN ?_ ?_ | refine gE_split ?_ ?_ | refine gQ_splitN ?_ ?_ | refine gQ_split ?_ ?_ | refine gM_splitN ?_ ?_ | refine gM_split ?_ ?_ | refine condM_splitDN ?_ ?_ | refine condM_splitD ?_ ?_ | refine condM_splitN ?_ ?_ | refine condM_split ?_ ?_ | refine condM_any ?_ ?_ | intro _) | (simp [*, cLines]))
  | false =>
    clear hb
    repeat' (first | (with_reducible first | refine awp_seq ?_ | refine awp_blockS ?_ | refine awp_blockC ?_ | refine awp_blockR ?_ | refine awp_skip ?_ | refine awp_ret ?_ | refine awp_exit ?_ | refine awp_region ?_ | refine awp_condM ?_ | refine And.intro ?_ ?_ | refine gE_splitN ?_ ?_ | refine gE_split ?_ ?_ | refine gQ_splitN ?_ ?_ | refine gQ_split ?_ ?_ | refine gM_splitN ?_ ?_ | refine gM_split ?_ ?_ | refine condM_splitDN ?_ ?_ | refine condM_splitD ?_ ?_ | refine condM_splitN ?_ ?_ | refine condM_split ?_ ?_ | refine condM_any ?_ ?_ | intro _) | (simp [*, cLines_lA]))
    all_goals try omega
theorem copied_mk (e : Entry) (h : e.lines.length < 100000) : MkCall Tryz.prog 107 [.agg (cEntry e)] [lA e.lines] (.agg [.w false false (.int .i64 e.date), .w false false (.str e.note), .msl 0 (e.lines.length * 2) 2 0 e.lines.length]) := by
  have c1 := clone_mk e.lines h
  unfold cEntry
  refine mkcall_intro 2 [] Tryz.func107 (by kernel_rfl) rfl (Nat.le_of_ble_eq_true (by kernel_rfl)) (by simp) (by simp) ?_
  simp only [Tryz.results107, Tryz.ntmps107]
  repeat' (first | (with_reducible first | refine awp_seq ?_ | refine awp_blockS ?_ | refine awp_blockC ?_ | refine awp_blockR ?_ | refine awp_skip ?_ | refine awp_ret ?_ | refine awp_exit ?_ | refine awp_region ?_ | refine awp_condM ?_ | refine And.intro ?_ ?_ | apply gQ_merge | apply gE_merge | exact EqV_w | exact EqE_w | exact EqV_ptr | exact EqE_ptr | exact EqV_msl | exact EqE_msl | exact EqV_agg | exact EqE_agg | exact EqV_fn | exact EqE_fn | exact EqV_gd | exact EqE_gd | refine gM_splitN ?_ ?_ | refine gM_split ?_ ?_ |  refine condM_splitDN ?_ ?_ | refine condM_splitD ?_ ?_ | refine condM_splitN ?_ ?_ | refine condM_split ?_ ?_ | refine condM_any ?_ ?_ | refine cwM (c1) ?_ | intro _) | (simp [*]))
theorem copyEntry_mk (e : Entry) (h : e.lines.length < 100000) : MkCall Tryz.prog 18 [.agg (cEntry e)] [lA e.lines] (.agg [.w false false (.int .i64 e.date), .w false false (.str e.note), .msl 0 (e.lines.length * 2) 2 0 e.lines.length]) := by
  unfold cEntry
  refine mkcall_intro 2 [] Tryz.func18 (by kernel_rfl) rfl (Nat.le_of_ble_eq_true (by kernel_rfl)) (by simp) (by simp) ?_
  simp only [Tryz.results18, Tryz.ntmps18]
  repeat' (first | (with_reducible first | refine awp_seq ?_ | refine awp_blockS ?_ | refine awp_blockC ?_ | refine awp_blockR ?_ | refine awp_skip ?_ | refine awp_ret ?_ | refine awp_exit ?_ | refine awp_region ?_ | refine awp_condM ?_ | refine And.intro ?_ ?_ | apply gQ_merge | apply gE_merge | exact EqV_w | exact EqE_w | exact EqV_ptr | exact EqE_ptr | exact EqV_msl | exact EqE_msl | exact EqV_agg | exact EqE_agg | exact EqV_fn | exact EqE_fn | exact EqV_gd | exact EqE_gd | refine gM_splitN ?_ ?_ | refine gM_split ?_ ?_ |  refine condM_splitDN ?_ ?_ | refine condM_splitD ?_ ?_ | refine condM_splitN ?_ ?_ | refine condM_split ?_ ?_ | refine condM_any ?_ ?_ | intro _) | (simp [*, cLines_lA]))
  all_goals try omega
set_option maxHeartbeats 4000000 in
theorem opposite_c (e : Entry) (hl : e.lines.length < 10000) (ha : ∀ k, k < e.lines.length → -1000000000 ≤ (nth e.lines k).amt ∧ (nth e.lines k).amt ≤ 1000000000) : RealCall Tryz.prog 64 [.agg (cEntry e)] (.agg (cEntry ⟨e.date, e.note, negL e.lines⟩)) true := by
  have c1 := copied_mk e (by omega)
  have hN := negK_all e.lines
  have hnl := negL_len e.lines
  obtain ⟨ed, en, el⟩ := e
  unfold cEntry at *
  dsimp only at *
  rw [← hN] at hnl ⊢
  clear hN
  have ka := keep ha
  clear ha
  refine realcall_intro Tryz.func64 (by kernel_rfl) rfl (Nat.le_of_ble_eq_true (by kernel_rfl)) ?_
  simp only [Tryz.results64, Tryz.ntmps64]
  repeat' (first | (with_reducible first | refine awp_seq ?_ | refine awp_blockS ?_ | refine awp_blockC ?_ | refine awp_blockR ?_ | refine awp_skip ?_ | refine awp_ret ?_ | refine awp_exit ?_ | refine awp_region ?_ | refine awp_regionD (id := 5) 12 mixed (by decide +kernel) ?_ | refine awp_condM ?_ | refine And.intro ?_ ?_ | apply gQ_merge | apply gE_merge | exact EqV_w | exact EqE_w | exact EqV_ptr | exact EqE_ptr | exact EqV_msl | exact EqE_msl | exact EqV_agg | exact EqE_agg | exact EqV_fn | exact EqE_fn | exact EqV_gd | exact EqE_gd | refine gM_splitN ?_ ?_ | refine gM_split ?_ ?_ |  refine condM_splitDN ?_ ?_ | refine condM_splitD ?_ ?_ | refine condM_splitN ?_ ?_ | refine condM_split ?_ ?_ | refine condM_any ?_ ?_ | refine cwM (c1) ?_ | intro _) | (simp [*]))
  refine awp_for3 (fun (k : Nat) => k ≤ el.length) [1, 2, 8] (fun (k : Nat) => [(9, .w false false (.int .i64 k))]) [0, 1] (fun (k : Nat) => [(2, lA (negK el k))]) (fun (k : Nat) => el.length - k) (fun (_u : Unit) => True) [1, 2] (fun (_u : Unit) => []) [0, 1] (fun (_u : Unit) => [(2, lA (negK el el.length))]) (0) (Nat.zero_le _) (by simp) (by simp) (fun k hk => ?_) (fun _u hf => ?_)
  · by_cases hlt : k < el.length
    · obtain ⟨a1, a2⟩ := (show ∀ k, k < el.length → -1000000000 ≤ (nth el k).amt ∧ (nth el k).amt ≤ 1000000000 from ka) k hlt
      have ks := negK_succ el k hlt
      have hnk := nth_negK el k hlt
      have hnl2 := negK_len el k
      clear ka c1 hnl
      generalize negK el k = L at *
      have g1 := lA_1 L k (by omega)
      have g2 := fun v => lA_set1 L k v (by omega)
      rw [hnk] at g1 g2
      have kk := keep ks
      clear ks
      have hltL : k < L.length := by omega
      repeat' (first | (with_reducible first | refine awp_seq ?_ | refine awp_blockS ?_ | refine awp_blockC ?_ | refine awp_blockR ?_ | refine awp_skip ?_ | refine awp_ret ?_ | refine awp_exit ?_ | refine awp_region ?_ | refine awp_regionD (id := 5) 12 mixed (by decide +kernel) ?_ | refine awp_condM ?_ | refine And.intro ?_ ?_ | apply gQ_merge | apply gE_merge | exact EqV_w | exact EqE_w | exact EqV_ptr | exact EqE_ptr | exact EqV_msl | exact EqE_msl | exact EqV_agg | exact EqE_agg | exact EqV_fn | exact EqE_fn | exact EqV_gd | exact EqE_gd | refine gM_splitN ?_ ?_ | refine gM_split ?_ ?_ |  refine condM_splitDN ?_ ?_ | refine condM_splitD ?_ ?_ | refine condM_splitN ?_ ?_ | refine condM_split ?_ ?_ | refine condM_any ?_ ?_ | intro _) | (simp [*, hlt, hltL, hnl2, g1, g2]))
      all_goals try first | exact inI64 (by omega) (by omega) | omega
      all_goals (refine loopK_normal _ _ _ _ _ (k + 1) _ ?_ (by first | omega | (dsimp only; omega) | (simp; omega)) ?_; (· omega); (refine le_of ?_ ?_ <;> first | trivial | (simp [*, (show negK el (k + 1) = _ from kk)]; done)))
    · have hke : k = el.length := by omega
      subst hke
      clear ka c1 hnl
      repeat' (first | (with_reducible first | refine awp_seq ?_ | refine awp_blockS ?_ | refine awp_blockC ?_ | refine awp_blockR ?_ | refine awp_skip ?_ | refine awp_ret ?_ | refine awp_exit ?_ | refine awp_region ?_ | refine awp_regionD (id := 5) 12 mixed (by decide +kernel) ?_ | refine awp_condM ?_ | refine And.intro ?_ ?_ | apply gQ_merge | apply gE_merge | exact EqV_w | exact EqE_w | exact EqV_ptr | exact EqE_ptr | exact EqV_msl | exact EqE_msl | exact EqV_agg | exact EqE_agg | exact EqV_fn | exact EqE_fn | exact EqV_gd | exact EqE_gd | refine gM_splitN ?_ ?_ | refine gM_split ?_ ?_ |  refine condM_splitDN ?_ ?_ | refine condM_splitD ?_ ?_ | refine condM_splitN ?_ ?_ | refine condM_split ?_ ?_ | refine condM_any ?_ ?_ | intro _) | (simp [*]))
      all_goals (refine finW_intro () ?_ ?_; (· trivial); (refine le_of ?_ ?_ <;> first | trivial | (simp [*]; done)))
  · clear ka c1
    have hnl2 := negK_len el el.length
    generalize negK el el.length = L at *
    repeat' (first | (with_reducible first | refine awp_seq ?_ | refine awp_blockS ?_ | refine awp_blockC ?_ | refine awp_blockR ?_ | refine awp_skip ?_ | refine awp_ret ?_ | refine awp_exit ?_ | refine awp_region ?_ | refine awp_regionD (id := 5) 12 mixed (by decide +kernel) ?_ | refine awp_condM ?_ | refine And.intro ?_ ?_ | apply gQ_merge | apply gE_merge | exact EqV_w | exact EqE_w | exact EqV_ptr | exact EqE_ptr | exact EqV_msl | exact EqE_msl | exact EqV_agg | exact EqE_agg | exact EqV_fn | exact EqE_fn | exact EqV_gd | exact EqE_gd | refine gM_splitN ?_ ?_ | refine gM_split ?_ ?_ |  refine condM_splitDN ?_ ?_ | refine condM_splitD ?_ ?_ | refine condM_splitN ?_ ?_ | refine condM_split ?_ ?_ | refine condM_any ?_ ?_ | intro _) | (simp [*, hnl2]))
def linesE (ls : List Line) : Int := if 12 < ls.length then 8 else if ls.any greatB = true then 2 else 0
theorem rLinesErr_c (e : Entry) (hl : e.lines.length < 100000) : RealCall Tryz.prog 59 [.agg (cEntry e)] (.int .i64 (linesE e.lines)) true := by
  have c1 := tooMuch_c e hl
  unfold muchB at c1
  unfold linesE
  generalize e.lines.any greatB = G at *
  by_cases h : 12 < e.lines.length
  · have hI : (12 : Int) < (e.lines.length : Int) := by omega
    rw [if_pos h]
    clear c1
    unfold cEntry
    refine realcall_intro Tryz.func59 (by kernel_rfl) rfl (Nat.le_of_ble_eq_true (by kernel_rfl)) ?_
    simp only [Tryz.results59, Tryz.ntmps59]
    repeat' (first | (with_reducible first | refine awp_seq ?_ | refine awp_blockS ?_ | refine awp_blockC ?_ | refine awp_blockR ?_ | refine awp_skip ?_ | refine awp_ret ?_ | refine awp_exit ?_ | refine awp_region ?_ | refine awp_condM ?_ | refine And.intro ?_ ?_ | apply gQ_merge | apply gE_merge | exact EqV_w | exact EqE_w | exact EqV_ptr | exact EqE_ptr | exact EqV_msl | exact EqE_msl | exact EqV_agg | exact EqE_agg | exact EqV_fn | exact EqE_fn | exact EqV_gd | exact EqE_gd | refine gM_splitN ?_ ?_ | refine gM_split ?_ ?_ |  refine condM_splitDN ?_ ?_ | refine condM_splitD ?_ ?_ | refine condM_splitN ?_ ?_ | refine condM_split ?_ ?_ | refine condM_any ?_ ?_ | intro _) | (simp [*, hI]))
  · have hI : ¬ (12 : Int) < (e.lines.length : Int) := by omega
    rw [if_neg h]
    rw [decide_eq_false h, Bool.or_false] at c1
    cases G with
    | true =>
      rw [if_pos rfl]
      unfold cEntry at *
      refine realcall_intro Tryz.func59 (by kernel_rfl) rfl (Nat.le_of_ble_eq_true (by kernel_rfl)) ?_
      simp only [Tryz.results59, Tryz.ntmps59]
      repeat' (first | (with_reducible first | refine awp_seq ?_ | refine awp_blockS ?_ | refine awp_blockC ?_ | refine awp_blockR ?_ | refine awp_skip ?_ | refine awp_ret ?_ | refine awp_exit ?_ | refine awp_region ?_ | refine awp_condM ?_ | refine And.intro ?_ ?_ | apply gQ_merge | apply gE_merge | exact EqV_w | exact EqE_w | exact EqV_ptr | exact EqE_ptr | exact EqV_msl | exact EqE_msl | exact EqV_agg | exact EqE_agg | exact EqV_fn | exact EqE_fn | exact EqV_gd | exact EqE_gd | refine gM_splitN ?_ ?_ | refine gM_split ?_ ?_ |  refine condM_splitDN ?_ ?_ | refine condM_splitD ?_ ?_ | refine condM_splitN ?_ ?_ | refine condM_split ?_ ?_ | refine condM_any ?_ ?_ | refine cw (c1) ?_ | intro _) | (simp [*, hI]) | (refine cw_eq (c1) ?_ ?_; (· (simp [*]; done))))
    | false =>
      rw [if_neg (by decide)]
      unfold cEntry at *
      refine realcall_intro Tryz.func59 (by kernel_rfl) rfl (Nat.le_of_ble_eq_true (by kernel_rfl)) ?_
      simp only [Tryz.results59, Tryz.ntmps59]
      repeat' (first | (with_reducible first | refine awp_seq ?_ | refine awp_blockS ?_ | refine awp_blockC ?_ | refine awp_blockR ?_ | refine awp_skip ?_ | refine awp_ret ?_ | refine awp_exit ?_ | refine awp_region ?_ | refine awp_condM ?_ | refine And.intro ?_ ?_ | apply gQ_merge | apply gE_merge | exact EqV_w | exact EqE_w | exact EqV_ptr | exact EqE_ptr | exact EqV_msl | exact EqE_msl | exact EqV_agg | exact EqE_agg | exact EqV_fn | exact EqE_fn | exact EqV_gd | exact EqE_gd | refine gM_splitN ?_ ?_ | refine gM_split ?_ ?_ |  refine condM_splitDN ?_ ?_ | refine condM_splitD ?_ ?_ | refine condM_splitN ?_ ?_ | refine condM_split ?_ ?_ | refine condM_any ?_ ?_ | refine cw (c1) ?_ | intro _) | (simp [*, hI]) | (refine cw_eq (c1) ?_ ?_; (· (simp [*]; done))))
theorem linesE_zero {ls : List Line} (h : linesE ls = 0) : ls.length ≤ 12 ∧ ∀ k, k < ls.length → -1000000000 ≤ (nth ls k).amt ∧ (nth ls k).amt ≤ 1000000000 := by
  unfold linesE at h
  split at h
  · cases h
  · rename_i h1
    split at h
    · cases h
    · rename_i h2
      refine ⟨by omega, fun k hk => ?_⟩
      have hm : nth ls k ∈ ls := by
        simp only [nth, List.getD_eq_getElem?_getD, List.getElem?_eq_getElem hk, Option.getD_some]
        exact List.getElem_mem hk
      by_cases hg : greatB (nth ls k) = true
      · exact absurd (List.any_eq_true.2 ⟨_, hm, hg⟩) h2
      · unfold greatB at hg
        have : smallB (nth ls k).amt 1000000000 = true := by simpa using hg
        have := winB_iff.1 this
        omega
def revS (e : Entry) (d : Int) : Entry × Int := if linesE e.lines = 0 then (if dateE d = 0 then (⟨d, e.note, negL e.lines⟩, 0) else (noEntry, dateE d)) else (noEntry, linesE e.lines)
set_option maxHeartbeats 4000000 in
theorem rReversed_c (e : Entry) (hl : e.lines.length < 10000) (d : Int) : RealCall Tryz.prog 29 [.agg (cEntry e), .int .i64 d] (.tup [.agg (cEntry (revS e d).1), .int .i64 (revS e d).2]) true := by
  have c1 := rLinesErr_c e (by omega)
  have c2 := rDateErr_c d
  unfold revS
  by_cases h1 : linesE e.lines = 0
  · rw [if_pos h1]
    obtain ⟨_, ha⟩ := linesE_zero h1
    rw [h1] at c1
    by_cases h2 : dateE d = 0
    · rw [if_pos h2]
      rw [h2] at c2
      have c3 := copyEntry_mk e (by omega)
      have hN := negK_all e.lines
      clear h1 h2
      obtain ⟨ed, en, el⟩ := e
      unfold cEntry at *
      dsimp only at *
      rw [← hN]
      clear hN
      have ka := keep ha
      clear ha
      refine realcall_intro Tryz.func29 (by kernel_rfl) rfl (Nat.le_of_ble_eq_true (by kernel_rfl)) ?_
      simp only [Tryz.results29, Tryz.ntmps29]
      repeat' (first | (with_reducible first | refine awp_seq ?_ | refine awp_blockS ?_ | refine awp_blockC ?_ | refine awp_blockR ?_ | refine awp_skip ?_ | refine awp_ret ?_ | refine awp_exit ?_ | refine awp_region ?_ | refine awp_regionD (id := 12) 12 mixed (by decide +kernel) ?_ | refine awp_condM ?_ | refine And.intro ?_ ?_ | apply gQ_merge | apply gE_merge | exact EqV_w | exact EqE_w | exact EqV_ptr | exact EqE_ptr | exact EqV_msl | exact EqE_msl | exact EqV_agg | exact EqE_agg | exact EqV_fn | exact EqE_fn | exact EqV_gd | exact EqE_gd | refine gM_splitN ?_ ?_ | refine gM_split ?_ ?_ |  refine condM_splitDN ?_ ?_ | refine condM_splitD ?_ ?_ | refine condM_splitN ?_ ?_ | refine condM_split ?_ ?_ | refine condM_any ?_ ?_ | refine cw (c1) ?_ | refine cw (c2) ?_ | refine cwM (c3) ?_ | intro _) | (simp [*]) | (refine cw_eq (c1) ?_ ?_; (· (simp [*]; done))) | (refine cw_eq (c2) ?_ ?_; (· (simp [*]; done))))
      clear c1 c2 c3
      refine awp_for3 (fun (k : Nat) => k ≤ el.length) [4, 8] (fun (k : Nat) => [(9, .w false false (.int .i64 k))]) [1, 3] (fun (k : Nat) => [(2, lA (negK el k))]) (fun (k : Nat) => el.length - k) (fun (_u : Unit) => True) [4, 8] (fun (_u : Unit) => []) [1, 3] (fun (_u : Unit) => [(2, lA (negK el el.length))]) (0) (Nat.zero_le _) (by simp) (by simp) (fun k hk => ?_) (fun _u hf => ?_)
      · by_cases hlt : k < el.length
        · obtain ⟨a1, a2⟩ := (show ∀ k, k < el.length → -1000000000 ≤ (nth el k).amt ∧ (nth el k).amt ≤ 1000000000 from ka) k hlt
          have ks := negK_succ el k hlt
          have hnk := nth_negK el k hlt
          have hnl2 := negK_len el k
          clear ka
          generalize negK el k = L at *
          have g1 := lA_1 L k (by omega)
          have g2 := fun v => lA_set1 L k v (by omega)
          rw [hnk] at g1 g2
          have kk := keep ks
          clear ks
          have hltL : k < L.length := by omega
          repeat' (first | (with_reducible first | refine awp_seq ?_ | refine awp_blockS ?_ | refine awp_blockC ?_ | refine awp_blockR ?_ | refine awp_skip ?_ | refine awp_ret ?_ | refine awp_exit ?_ | refine awp_region ?_ | refine awp_regionD (id := 12) 12 mixed (by decide +kernel) ?_ | refine awp_condM ?_ | refine And.intro ?_ ?_ | apply gQ_merge | apply gE_merge | exact EqV_w | exact EqE_w | exact EqV_ptr | exact EqE_ptr | exact EqV_msl | exact EqE_msl | exact EqV_agg | exact EqE_agg | exact EqV_fn | exact EqE_fn | exact EqV_gd | exact EqE_gd | refine gM_splitN ?_ ?_ | refine gM_split ?_ ?_ |  refine condM_splitDN ?_ ?_ | refine condM_splitD ?_ ?_ | refine condM_splitN ?_ ?_ | refine condM_split ?_ ?_ | refine condM_any ?_ ?_ | intro _) | (simp [*, hlt, hltL, hnl2, g1, g2]))
          all_goals try first | exact inI64 (by omega) (by omega) | omega
          all_goals (refine loopK_normal _ _ _ _ _ (k + 1) _ ?_ (by first | omega | (dsimp only; omega) | (simp; omega)) ?_; (· omega); (refine le_of ?_ ?_ <;> first | trivial | (simp [*, (show negK el (k + 1) = _ from kk)]; done)))
        · have hke : k = el.length := by omega
          subst hke
          clear ka
          repeat' (first | (with_reducible first | refine awp_seq ?_ | refine awp_blockS ?_ | refine awp_blockC ?_ | refine awp_blockR ?_ | refine awp_skip ?_ | refine awp_ret ?_ | refine awp_exit ?_ | refine awp_region ?_ | refine awp_regionD (id := 12) 12 mixed (by decide +kernel) ?_ | refine awp_condM ?_ | refine And.intro ?_ ?_ | apply gQ_merge | apply gE_merge | exact EqV_w | exact EqE_w | exact EqV_ptr | exact EqE_ptr | exact EqV_msl | exact EqE_msl | exact EqV_agg | exact EqE_agg | exact EqV_fn | exact EqE_fn | exact EqV_gd | exact EqE_gd | refine gM_splitN ?_ ?_ | refine gM_split ?_ ?_ |  refine condM_splitDN ?_ ?_ | refine condM_splitD ?_ ?_ | refine condM_splitN ?_ ?_ | refine condM_split ?_ ?_ | refine condM_any ?_ ?_ | intro _) | (simp [*]))
          all_goals (refine finW_intro () ?_ ?_; (· trivial); (refine le_of ?_ ?_ <;> first | trivial | (simp [*]; done)))
      · clear ka
        have hnl2 := negK_len el el.length
        generalize negK el el.length = L at *
        repeat' (first | (with_reducible first | refine awp_seq ?_ | refine awp_blockS ?_ | refine awp_blockC ?_ | refine awp_blockR ?_ | refine awp_skip ?_ | refine awp_ret ?_ | refine awp_exit ?_ | refine awp_region ?_ | refine awp_regionD (id := 12) 12 mixed (by decide +kernel) ?_ | refine awp_condM ?_ | refine And.intro ?_ ?_ | apply gQ_merge | apply gE_merge | exact EqV_w | exact EqE_w | exact EqV_ptr | exact EqE_ptr | exact EqV_msl | exact EqE_msl | exact EqV_agg | exact EqE_agg | exact EqV_fn | exact EqE_fn | exact EqV_gd | exact EqE_gd | refine gM_splitN ?_ ?_ | refine gM_split ?_ ?_ |  refine condM_splitDN ?_ ?_ | refine condM_splitD ?_ ?_ | refine condM_splitN ?_ ?_ | refine condM_split ?_ ?_ | refine condM_any ?_ ?_ | intro _) | (simp [*, hnl2]))
    · rw [if_neg h2]
      generalize dateE d = D at *
      clear ha h1
      unfold cEntry noEntry at *
      refine realcall_intro Tryz.func29 (by kernel_rfl) rfl (Nat.le_of_ble_eq_true (by kernel_rfl)) ?_
      simp only [Tryz.results29, Tryz.ntmps29]
      repeat' (first | (with_reducible first | refine awp_seq ?_ | refine awp_blockS ?_ | refine awp_blockC ?_ | refine awp_blockR ?_ | refine awp_skip ?_ | refine awp_ret ?_ | refine awp_exit ?_ | refine awp_region ?_ | refine awp_regionD (id := 12) 12 mixed (by decide +kernel) ?_ | refine awp_condM ?_ | refine And.intro ?_ ?_ | apply gQ_merge | apply gE_merge | exact EqV_w | exact EqE_w | exact EqV_ptr | exact EqE_ptr | exact EqV_msl | exact EqE_msl | exact EqV_agg | exact EqE_agg | exact EqV_fn | exact EqE_fn | exact EqV_gd | exact EqE_gd | refine gM_splitN ?_ ?_ | refine gM_split ?_ ?_ |  refine condM_splitDN ?_ ?_ | refine condM_splitD ?_ ?_ | refine condM_splitN ?_ ?_ | refine condM_split ?_ ?_ | refine condM_any ?_ ?_ | refine cw (c1) ?_ | refine cw (c2) ?_ | intro _) | (simp [*, h2, repl]) | (refine cw_eq (c1) ?_ ?_; (· (simp [*]; done))) | (refine cw_eq (c2) ?_ ?_; (· (simp [*]; done))))
      all_goals rfl
  · rw [if_neg h1]
    generalize linesE e.lines = E at *
    clear c2
    unfold cEntry noEntry at *
    refine realcall_intro Tryz.func29 (by kernel_rfl) rfl (Nat.le_of_ble_eq_true (by kernel_rfl)) ?_
    simp only [Tryz.results29, Tryz.ntmps29]
    repeat' (first | (with_reducible first | refine awp_seq ?_ | refine awp_blockS ?_ | refine awp_blockC ?_ | refine awp_blockR ?_ | refine awp_skip ?_ | refine awp_ret ?_ | refine awp_exit ?_ | refine awp_region ?_ | refine awp_regionD (id := 12) 12 mixed (by decide +kernel) ?_ | refine awp_condM ?_ | refine And.intro ?_ ?_ | apply gQ_merge | apply gE_merge | exact EqV_w | exact EqE_w | exact EqV_ptr | exact EqE_ptr | exact EqV_msl | exact EqE_msl | exact EqV_agg | exact EqE_agg | exact EqV_fn | exact EqE_fn | exact EqV_gd | exact EqE_gd | refine gM_splitN ?_ ?_ | refine gM_split ?_ ?_ |  refine condM_splitDN ?_ ?_ | refine condM_splitD ?_ ?_ | refine condM_splitN ?_ ?_ | refine condM_split ?_ ?_ | refine condM_any ?_ ?_ | refine cw (c1) ?_ | intro _) | (simp [*, h1, repl]) | (refine cw_eq (c1) ?_ ?_; (· (simp [*]; done))))
    all_goals rfl
end Go.Proofs.YtpjhpmpbdfeajaaGreatDoor
namespace Go.Proofs.YtpjhpmpbdfeajaaGreatDoor
open Go Go.Fi
set_option maxRecDepth 20000

/-! ### what several entries have netted, in plain words -/
abbrev Sums := List (ByteArray × Int)
def kM (M : Sums) : List ByteArray := M.map (·.1)
def netL (Q : Sums) (ls : List Line) : Nat → Sums
  | 0 => Q
  | j + 1 => addM (netL Q ls j) (nth ls j).acc (nth ls j).amt
def netK (l : List Entry) : Nat → Sums
  | 0 => []
  | k + 1 => netL (netK l k) (nth l k).lines (nth l k).lines.length
@[simp] theorem netL_zero (Q : Sums) (ls : List Line) : netL Q ls 0 = Q := rfl
@[simp] theorem netK_zero (l : List Entry) : netK l 0 = [] := rfl
@[simp] theorem kM_nil : kM [] = [] := rfl
theorem netL_none {Q : Sums} {ls : List Line} {j : Nat} (h : lookM (netL Q ls j) (nth ls j).acc = none) :
    netL Q ls (j + 1) = putM (netL Q ls j) (nth ls j).acc (nth ls j).amt ∧ kM (putM (netL Q ls j) (nth ls j).acc (nth ls j).amt) = kM (netL Q ls j) ++ [(nth ls j).acc] := by
  refine ⟨by simp [netL, addM, h], ?_⟩
  rw [putM_keys_none h]
  simp [kM]
theorem netL_some {Q : Sums} {ls : List Line} {j : Nat} {x : Int} (h : lookM (netL Q ls j) (nth ls j).acc = some x) :
    netL Q ls (j + 1) = putM (netL Q ls j) (nth ls j).acc (x + (nth ls j).amt) ∧ kM (putM (netL Q ls j) (nth ls j).acc (x + (nth ls j).amt)) = kM (netL Q ls j) :=
  ⟨by simp [netL, addM, h], putM_keys_some h⟩
def bndM (M : Sums) (B : Int) : Prop := ∀ s, -B ≤ (lookM M s).getD 0 ∧ (lookM M s).getD 0 ≤ B
theorem addM_look (M : Sums) (k : ByteArray) (v : Int) (q : ByteArray) : (lookM (addM M k v) q).getD 0 = (lookM M q).getD 0 + (if k = q then v else 0) := by
  unfold addM
  rw [lookM_put]
  by_cases h : q = k
  · subst h; simp
  · rw [if_neg h, if_neg (fun e => h e.symm)]; omega
theorem addM_bnd {M : Sums} {B : Int} (h : bndM M B) (k : ByteArray) {v : Int} (h1 : -1000000000 ≤ v) (h2 : v ≤ 1000000000) : bndM (addM M k v) (B + 1000000000) := by
  intro s
  rw [addM_look]
  have := h s
  split <;> omega
theorem netL_bnd {Q : Sums} {B : Int} (h : bndM Q B) (ls : List Line) (ha : ∀ k, k < ls.length → -1000000000 ≤ (nth ls k).amt ∧ (nth ls k).amt ≤ 1000000000) : ∀ j, j ≤ ls.length → bndM (netL Q ls j) (B + 1000000000 * (j : Int))
  | 0, _ => by simpa using h
  | j + 1, hj => by
    have ih := netL_bnd h ls ha j (by omega)
    have := addM_bnd ih (nth ls j).acc (ha j (by omega)).1 (ha j (by omega)).2
    rw [show B + 1000000000 * ((j + 1 : Nat) : Int) = B + 1000000000 * (j : Int) + 1000000000 by omega]
    exact this
theorem bndM_le {M : Sums} {B C : Int} (h : bndM M B) (hBC : B ≤ C) : bndM M C := fun s => by have := h s; omega
theorem netK_bnd (l : List Entry) : ∀ k, k ≤ l.length → (∀ j, j < k → linesE (nth l j).lines = 0) → bndM (netK l k) (12000000000 * (k : Int))
  | 0, _, _ => fun s => by simp [lookM]
  | k + 1, hk, h => by
    have ih := netK_bnd l k (by omega) (fun j hj => h j (by omega))
    obtain ⟨h1, h2⟩ := linesE_zero (h k (by omega))
    exact bndM_le (netL_bnd ih _ h2 _ (Nat.le_refl _)) (by omega)
theorem netL_look (Q : Sums) (ls : List Line) (q : ByteArray) : ∀ j, j ≤ ls.length → (lookM (netL Q ls j) q).getD 0 = (lookM Q q).getD 0 + putS q (ls.take j)
  | 0, _ => by simp
  | j + 1, hj => by
    rw [show netL Q ls (j + 1) = addM (netL Q ls j) (nth ls j).acc (nth ls j).amt from rfl, addM_look, netL_look Q ls q j (by omega), putS_succ q ls j (by omega)]
    split <;> omega
/-- a name's sum over the first entries -/
def sumE (n : ByteArray) (l : List Entry) : Nat → Int
  | 0 => 0
  | k + 1 => sumE n l k + putS n (nth l k).lines
@[simp] theorem sumE_zero (n : ByteArray) (l : List Entry) : sumE n l 0 = 0 := rfl
theorem netK_look (l : List Entry) (q : ByteArray) : ∀ k, (lookM (netK l k) q).getD 0 = sumE q l k
  | 0 => rfl
  | k + 1 => by
    rw [show netK l (k + 1) = netL (netK l k) (nth l k).lines (nth l k).lines.length from rfl, netL_look _ _ _ _ (Nat.le_refl _), netK_look l q k, List.take_length]
    rfl
/-- the lines of the names' sums -/
def outK (f : ByteArray → Int) (ns : List ByteArray) : Nat → List Line
  | 0 => []
  | k + 1 => addL (outK f ns k) (nth ns k) (f (nth ns k))
@[simp] theorem outK_zero (f : ByteArray → Int) (ns : List ByteArray) : outK f ns 0 = [] := rfl
theorem outK_succ (f : ByteArray → Int) (ns : List ByteArray) (k : Nat) : outK f ns (k + 1) = addL (outK f ns k) (nth ns k) (f (nth ns k)) := rfl
theorem outK_len (f : ByteArray → Int) (ns : List ByteArray) : ∀ k, (outK f ns k).length ≤ k
  | 0 => Nat.le_refl _
  | k + 1 => by have := outK_len f ns k; have := addL_len (outK f ns k) (nth ns k) (f (nth ns k)); rw [outK_succ]; omega
theorem kM_len_le {M : Sums} {k : ByteArray} {v : Int} : (kM (putM M k v)).length ≤ (kM M).length + 1 := by
  cases h : lookM M k with
  | none => rw [putM_keys_none h]; simp [kM]
  | some x => have := putM_keys_some (v := v) h; unfold kM; rw [this]; omega
theorem netL_len (Q : Sums) (ls : List Line) : ∀ j, (kM (netL Q ls j)).length ≤ (kM Q).length + j
  | 0 => Nat.le_refl _
  | j + 1 => by have h1 := netL_len Q ls j; have h2 := kM_len_le (M := netL Q ls j) (k := (nth ls j).acc) (v := (lookM (netL Q ls j) (nth ls j).acc).getD 0 + (nth ls j).amt); show (kM (addM _ _ _)).length ≤ _; unfold addM; omega
theorem netK_len (l : List Entry) : ∀ k, k ≤ l.length → (∀ j, j < k → linesE (nth l j).lines = 0) → (kM (netK l k)).length ≤ 12 * k
  | 0, _, _ => Nat.le_refl _
  | k + 1, hk, h => by
    have h1 := netK_len l k (by omega) (fun j hj => h j (by omega))
    have h2 := netL_len (netK l k) (nth l k).lines (nth l k).lines.length
    have h3 := (linesE_zero (h k (by omega))).1
    show (kM (netL _ _ _)).length ≤ _
    omega
def errL (l : List Entry) : Int := firstS (l.map fun e => linesE e.lines)
def outN (l : List Entry) (note : ByteArray) : Entry := ⟨(nth l (l.length - 1)).date, note, outK (fun n => sumE n l l.length) (kM (netK l l.length)) (kM (netK l l.length)).length⟩
def netS (l : List Entry) (note : ByteArray) : Entry × Int :=
  if l.length = 0 then (noEntry, 10) else if 100 < l.length then (noEntry, 8) else if errL l ≠ 0 then (noEntry, errL l) else if noteE note ≠ 0 then (noEntry, noteE note) else largestS (outN l note)
theorem linesQ_eq (ls : List Line) : linesQ ls = linesE ls := by
  unfold linesQ linesE
  by_cases h : 12 < ls.length
  · rw [if_pos h]; simp [errUnless, firstS, show ¬ (ls.length : Int) ≤ 12 by omega]
  · rw [if_neg h]
    by_cases hg : ls.any greatB = true
    · rw [if_pos hg]; simp [errUnless, firstS, show (ls.length : Int) ≤ 12 by omega, hg]
    · rw [if_neg hg]
      have : ls.any greatB = false := by simpa using hg
      simp [errUnless, firstS, show (ls.length : Int) ≤ 12 by omega, this]
theorem errL_zero {l : List Entry} : errL l = 0 ↔ ∀ k, k < l.length → linesE (nth l k).lines = 0 := by
  constructor
  · intro h k hk
    have := firstS_zero h (linesE (nth l k).lines) (List.mem_map.2 ⟨nth l k, by
      simp only [nth, List.getD_eq_getElem?_getD, List.getElem?_eq_getElem hk, Option.getD_some]
      exact List.getElem_mem hk, rfl⟩)
    exact this
  · intro h
    unfold errL
    induction l with
    | nil => rfl
    | cons e r ih =>
      have h0 := h 0 (by simp)
      have hr := ih (fun k hk => h (k + 1) (by simpa using hk))
      show firstS (linesE e.lines :: _) = 0
      have h0' : linesE e.lines = 0 := h0
      unfold firstS
      rw [h0']
      simpa using hr
theorem errL_first {l : List Entry} {k : Nat} (hk : k < l.length) (h : ∀ j, j < k → linesE (nth l j).lines = 0) (hne : linesE (nth l k).lines ≠ 0) : errL l = linesE (nth l k).lines := by
  unfold errL
  induction l generalizing k with
  | nil => simp at hk
  | cons e r ih =>
    cases k with
    | zero =>
      show firstS (linesE e.lines :: _) = linesE e.lines
      have : linesE e.lines ≠ 0 := hne
      unfold firstS
      simp [this]
    | succ k =>
      have h0 : linesE e.lines = 0 := h 0 (by omega)
      have hr := ih (k := k) (by simpa using hk) (fun j hj => h (j + 1) (by omega)) hne
      show firstS (linesE e.lines :: _) = _
      unfold firstS
      rw [h0]
      simpa using hr
end Go.Proofs.YtpjhpmpbdfeajaaGreatDoor

