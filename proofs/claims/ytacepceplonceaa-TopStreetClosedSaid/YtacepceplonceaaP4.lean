/- Contracts of functions for this claim: lemmas alone. -/
import Derived.Test.YtacepceplonceaaP3
set_option linter.unusedSimpArgs false
set_option linter.unusedVariables false
namespace Go.Proofs.Ytacepceplonceaa
open Go Go.Fi

def pointE (l : List Pt) (k : Nat) : Int :=
  firstS [errUnless (winB (nth l k).at_ 0 86399 && winB (nth l k).lo 0 7200 && winB (nth l k).hi 0 7200) 2,
    errUnless (decide ((nth l k).lo ≤ (nth l k).hi) && (decide (k = 0) || decide ((nth l (k - 1)).at_ < (nth l k).at_))) 9]
set_option maxHeartbeats 2000000 in
theorem pointErr_c (l : List Pt) (k : Nat) (h : k < l.length) (hl : l.length < 1000) : RealCall Try.prog 53 [.sl l.length (cPts l), .int .i64 k] (.int .i64 (pointE l k)) true := by
  have hk : k - 1 < l.length := by omega
  have hmax : (if (1 : Int) < (k : Int) then (k : Int) - 1 else 0) = ((k - 1 : Nat) : Int) := by split <;> omega
  refine realcall_intro Try.func53 (by kernel_rfl) rfl (Nat.le_of_ble_eq_true (by kernel_rfl)) ?_
  simp only [Try.results53, Try.ntmps53]
  repeat' (first | (with_reducible first | refine awp_seq ?_ | refine awp_blockS ?_ | refine awp_blockC ?_ | refine awp_blockR ?_ | refine awp_skip ?_ | refine awp_ret ?_ | refine awp_exit ?_ | refine awp_region ?_ | refine awp_regionD (id := 4) 29 mixed (by decide +kernel) ?_ | refine awp_condM ?_ | refine And.intro ?_ ?_ | refine gM_splitN ?_ ?_ | refine gM_split ?_ ?_ | refine condM_splitDN ?_ ?_ | refine condM_splitD ?_ ?_ | refine condM_splitN ?_ ?_ | refine condM_split ?_ ?_ | refine condM_any ?_ ?_ | refine cw (within_c _ _ _) ?_ | refine cw (isTake_c _) ?_ | refine cw (unless_c _ _) ?_ | refine cw (first2_c _ _) ?_ | intro _) | (simp [*, hmax]))
  all_goals first
    | exact inI64 (by omega) (by omega)
    | omega
    | (unfold pointE; simp only [*, Bool.and_true, Bool.and_false, Bool.true_and, Bool.false_and, Bool.or_true, Bool.or_false, Bool.true_or, Bool.false_or]; done)
    | (unfold pointE; simp_all; done)
    | skip

def inOrderB (l : List Pt) (k : Nat) : Bool :=
  decide ((nth l k).lo - gapS (nth l k).at_ (nth l ((k + 1) % l.length)).at_ ≤ (nth l ((k + 1) % l.length)).lo) && decide ((nth l k).hi - gapS (nth l k).at_ (nth l ((k + 1) % l.length)).at_ ≤ (nth l ((k + 1) % l.length)).hi)
set_option maxHeartbeats 2000000 in
theorem inOrder_c (l : List Pt) (k : Nat) (h : k < l.length) (hl : PtsOk l) : RealCall Try.prog 54 [.sl l.length (cPts l), .int .i64 k] (.bool (inOrderB l k)) true := by
  have cb := behind_c l k h hl.len hl.at_
  have b1 := hl.at_ _ h
  have hj : (k + 1) % l.length < l.length := Nat.mod_lt _ hl.pos
  have b2 := hl.at_ _ hj
  have v1 := hl.val _ h
  have v2 := hl.val _ hj
  have hg := gapS_bd b1 b2
  have hg2 : gapS (nth l k).at_ (nth l ((k + 1) % l.length)).at_ ≤ 86400 := by unfold gapS; split <;> omega
  unfold inOrderB
  generalize (k + 1) % l.length = j at *
  generalize gapS (nth l k).at_ (nth l j).at_ = g at *
  refine realcall_intro Try.func54 (by kernel_rfl) rfl (Nat.le_of_ble_eq_true (by kernel_rfl)) ?_
  simp only [Try.results54, Try.ntmps54]
  repeat' (first | (with_reducible first | refine awp_seq ?_ | refine awp_blockS ?_ | refine awp_blockC ?_ | refine awp_blockR ?_ | refine awp_skip ?_ | refine awp_ret ?_ | refine awp_exit ?_ | refine awp_region ?_ | refine awp_regionD (id := 2) 27 mixed (by decide +kernel) ?_ | refine awp_condM ?_ | refine And.intro ?_ ?_ | refine gM_splitN ?_ ?_ | refine gM_split ?_ ?_ | refine condM_splitDN ?_ ?_ | refine condM_splitD ?_ ?_ | refine condM_splitN ?_ ?_ | refine condM_split ?_ ?_ | refine condM_any ?_ ?_ | refine cw (cb) ?_ | intro _) | (simp [*]))
  all_goals first
    | exact inI64 (by omega) (by omega)
    | omega
    | (simp_all; done)
    | skip

end Go.Proofs.Ytacepceplonceaa
