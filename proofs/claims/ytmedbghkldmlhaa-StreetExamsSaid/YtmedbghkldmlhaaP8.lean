/- Contracts of functions for this claim: lemmas alone. -/
import Derived.Test.YtmedbghkldmlhaaP7
set_option linter.unusedSimpArgs false
set_option linter.unusedVariables false
namespace Go.Proofs.Ytmedbghkldmlhaa
open Go Go.Fi

def rTakesS (l : List Pt) (at_ : Int) (hi : Bool) : Int :=
  let x := at_ % 86400
  let i := lastI l x l.length
  let j := (i + 1) % l.length
  let d := ((nth l j).at_ - (nth l i).at_) % 86400
  if d = 0 then ptv hi (nth l i) else ptv hi (nth l i) + ceilS ((ptv hi (nth l j) - ptv hi (nth l i)) * ((x - (nth l i).at_) % 86400)) d
set_option maxHeartbeats 4000000 in
theorem rTakes_c (nm : ByteArray) (fr to me : Int) (l : List Pt) (at_ : Int) (hl : PtsOk l) (h0 : 0 ≤ at_) (h1 : at_ ≤ 4000000000000000) :
    RealCall Try.prog 23 [.agg [.str nm, .int .i64 fr, .int .i64 to, .int .i64 me, .sl l.length (cPts l)], .int .i64 at_] (.agg [.int .i64 (rTakesS l at_ false), .int .i64 (rTakesS l at_ true)]) true := by
  have hx : 0 ≤ at_ % 86400 ∧ at_ % 86400 < 86400 := by omega
  have hlen := hl.len
  have hpos := hl.pos
  have cm := rMod_c at_ 86400 (by decide) (by decide)
  unfold rTakesS
  generalize at_ % 86400 = x at *
  refine realcall_intro Try.func23 (by kernel_rfl) rfl (Nat.le_of_ble_eq_true (by kernel_rfl)) ?_
  simp only [Try.results23, Try.ntmps23]
  repeat' (first | (with_reducible first | refine awp_seq ?_ | refine awp_blockS ?_ | refine awp_blockC ?_ | refine awp_blockR ?_ | refine awp_skip ?_ | refine awp_ret ?_ | refine awp_exit ?_ | refine awp_region ?_ | refine awp_regionS (id := 8) [0, 1, 2, 3, 4, 5, 6, 7, 8, 9, 10, 11, 12, 13, 14, 15, 16] [17, 18] [[], [], [], [], [], [.new 0], [.new 0], [.new 0], [.new 0], [.new 0], [.new 0], [.new 0], [.new 0], [.new 0], [.new 0], [], []] [[.new 0], [.new 1]] mixed (by decide +kernel) ?_ | refine awp_regionD (id := 13) 19 mixed (by decide +kernel) ?_ | refine awp_condM ?_ | refine And.intro ?_ ?_ | refine gM_splitN ?_ ?_ | refine gM_split ?_ ?_ | refine condM_splitDN ?_ ?_ | refine condM_splitD ?_ ?_ | refine condM_splitN ?_ ?_ | refine condM_split ?_ ?_ | refine condM_any ?_ ?_ | refine cw (cm) ?_ | intro _) | (simp [*]))
  all_goals try first | exact inI64 (by omega) (by omega) | omega
  refine awp_for2 (fun k : Nat => k ≤ l.length) [2, 4, 5] (fun k => [(6, .w false false (.int .i64 (lastI l x k))), (7, .w false false (.int .i64 k))]) (fun _ => [(1, [.w false false (.int .i64 0), .w false false (.int .i64 0)]), (0, [.w false false (.str nm), .w false false (.int .i64 fr), .w false false (.int .i64 to), .w false false (.int .i64 me), .w false false (.sl l.length (cPts l))])]) (fun k => l.length - k)
    (fun _ : Unit => True) [2, 4, 5] (fun _ => [(6, .w false false (.int .i64 (lastI l x l.length)))]) (fun _ => [(1, [.w false false (.int .i64 0), .w false false (.int .i64 0)]), (0, [.w false false (.str nm), .w false false (.int .i64 fr), .w false false (.int .i64 to), .w false false (.int .i64 me), .w false false (.sl l.length (cPts l))])]) 0 (Nat.zero_le _) (by simp [lastI]; omega) (by simp) (fun k hk => ?_) (fun _ _ => ?_)
  · repeat' (first | (with_reducible first | refine awp_seq ?_ | refine awp_blockS ?_ | refine awp_blockC ?_ | refine awp_blockR ?_ | refine awp_skip ?_ | refine awp_ret ?_ | refine awp_exit ?_ | refine awp_region ?_ | refine awp_regionS (id := 8) [0, 1, 2, 3, 4, 5, 6, 7, 8, 9, 10, 11, 12, 13, 14, 15, 16] [17, 18] [[], [], [], [], [], [.new 0], [.new 0], [.new 0], [.new 0], [.new 0], [.new 0], [.new 0], [.new 0], [.new 0], [.new 0], [], []] [[.new 0], [.new 1]] mixed (by decide +kernel) ?_ | refine awp_regionD (id := 13) 19 mixed (by decide +kernel) ?_ | refine awp_condM ?_ | refine And.intro ?_ ?_ | refine gM_splitN ?_ ?_ | refine gM_split ?_ ?_ | refine condM_splitDN ?_ ?_ | refine condM_splitD ?_ ?_ | refine condM_splitN ?_ ?_ | refine condM_split ?_ ?_ | refine condM_any ?_ ?_ | intro _) | (simp [*]))
    all_goals first
      | exact inI64 (by omega) (by omega)
      | omega
      | (refine loopK_normal _ _ _ _ _ (k + 1) _ ?_ (by first | omega | (dsimp only; omega) | (simp; omega)) ?_; (· omega); (refine le_of ?_ ?_ <;> first | trivial | (simp [*, lastI]; done)))
      | (refine loopK_normal _ _ _ _ _ (k + 1) _ (by omega) (by omega) (le_of (by rw [lastI, if_neg (by omega)]; simp) (by simp)))
      | (have e : k = l.length := by omega
         (refine finW_intro () ?_ ?_; (· trivial); (refine le_of ?_ ?_ <;> first | trivial | (simp [*, e]; done))))
  · have hi1 := lastI_lt l x hpos l.length (Nat.le_refl _)
    generalize lastI l x l.length = i at *
    have htm : ((i : Int) + 1).tmod l.length = (((i + 1) % l.length : Nat) : Int) := by
      rw [Int.tmod_eq_emod_of_nonneg (by omega)]; simp
    have b1 := hl.at_ _ hi1
    have hj : (i + 1) % l.length < l.length := Nat.mod_lt _ hpos
    have b2 := hl.at_ _ hj
    have v1 := hl.val _ hi1
    have v2 := hl.val _ hj
    generalize (i + 1) % l.length = j at *
    have cd := rMod_c ((nth l j).at_ - (nth l i).at_) 86400 (by decide) (by decide)
    have co := rMod_c (x - (nth l i).at_) 86400 (by decide) (by decide)
    have hd0 : 0 ≤ ((nth l j).at_ - (nth l i).at_) % 86400 ∧ ((nth l j).at_ - (nth l i).at_) % 86400 < 86400 := by omega
    have ho0 : 0 ≤ (x - (nth l i).at_) % 86400 ∧ (x - (nth l i).at_) % 86400 < 86400 := by omega
    generalize ((nth l j).at_ - (nth l i).at_) % 86400 = d at *
    generalize (x - (nth l i).at_) % 86400 = o at *
    have cb1 := fun hd => rBetween_c (nth l i).lo (nth l j).lo o d hd (by omega) (by omega) (by omega)
    have cb2 := fun hd => rBetween_c (nth l i).hi (nth l j).hi o d hd (by omega) (by omega) (by omega)
    have hne : l ≠ [] := by rintro rfl; simp at hpos
    repeat' (first | (with_reducible first | refine awp_seq ?_ | refine awp_blockS ?_ | refine awp_blockC ?_ | refine awp_blockR ?_ | refine awp_skip ?_ | refine awp_ret ?_ | refine awp_exit ?_ | refine awp_region ?_ | refine awp_regionS (id := 8) [0, 1, 2, 3, 4, 5, 6, 7, 8, 9, 10, 11, 12, 13, 14, 15, 16] [17, 18] [[], [], [], [], [], [.new 0], [.new 0], [.new 0], [.new 0], [.new 0], [.new 0], [.new 0], [.new 0], [.new 0], [.new 0], [], []] [[.new 0], [.new 1]] mixed (by decide +kernel) ?_ | refine awp_regionD (id := 13) 19 mixed (by decide +kernel) ?_ | refine awp_condM ?_ | refine And.intro ?_ ?_ | refine gM_splitN ?_ ?_ | refine gM_split ?_ ?_ | refine condM_splitDN ?_ ?_ | refine condM_splitD ?_ ?_ | refine condM_splitN ?_ ?_ | refine condM_split ?_ ?_ | refine condM_any ?_ ?_ | refine cw (cd) ?_ | refine cw (co) ?_ | refine cw (cb1 (by omega)) ?_ | refine cw (cb2 (by omega)) ?_ | intro _) | (simp [*, htm, ptv, ptvI]))
    all_goals first
      | exact inI64 (by omega) (by omega)
      | omega
      | skip
end Go.Proofs.Ytmedbghkldmlhaa
