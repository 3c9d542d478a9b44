/- Contracts of functions for this claim: lemmas alone. -/
import Derived.Test.YtmedbghkldmlhaaP14
set_option linter.unusedSimpArgs false
set_option linter.unusedVariables false
namespace Go.Proofs.Ytmedbghkldmlhaa
open Go Go.Fi

theorem ceilS_zero (b : Int) : ceilS 0 b = 0 := by simp [ceilS]
/-- the two ways to say how long a road takes -/
theorem takes_same {l : List Pt} (hl : PtsOk l) (hi : PtsInc l) (at_ : Int) (late : Bool) : rTakesS l at_ late = takesS l at_ late := by
  unfold rTakesS takesS
  dsimp only
  have hx : 0 ≤ at_ % 86400 ∧ at_ % 86400 < 86400 := by omega
  generalize at_ % 86400 = x at *
  have h1 := lastI_lt l x hl.pos l.length (Nat.le_refl _)
  generalize lastI l x l.length = i at *
  have hj : (i + 1) % l.length < l.length := Nat.mod_lt _ hl.pos
  have b1 := hl.at_ i h1
  have b2 := hl.at_ _ hj
  have hlt1 : i < (i + 1) % l.length → (nth l i).at_ < (nth l ((i + 1) % l.length)).at_ := fun h => hi.lt h hj
  have hlt2 : (i + 1) % l.length < i → (nth l ((i + 1) % l.length)).at_ < (nth l i).at_ := fun h => hi.lt h h1
  have hg : goneS x (nth l i).at_ = (x - (nth l i).at_) % 86400 := by unfold goneS; split <;> omega
  rw [hg]
  by_cases he : (i + 1) % l.length = i
  · rw [he]
    simp only [Int.sub_self, show (0 : Int) % 86400 = 0 from rfl, if_true, Int.zero_mul, ceilS_zero, Int.add_zero]
  · generalize (i + 1) % l.length = j at *
    have hne : (nth l j).at_ ≠ (nth l i).at_ := by
      rcases Nat.lt_trichotomy i j with h | h | h
      · have := hlt1 h; omega
      · omega
      · have := hlt2 h; omega
    have hd : ((nth l j).at_ - (nth l i).at_) % 86400 = gapS (nth l i).at_ (nth l j).at_ := by unfold gapS; split <;> omega
    have hd0 : gapS (nth l i).at_ (nth l j).at_ ≠ 0 := by have := gapS_bd b1 b2; omega
    rw [hd, if_neg hd0]
theorem takesR_bad {n : Net} {road at_ c : Int} (h : firstS [(netS n).2.2, errUnless (winB road 0 (n.roads.length - 1)) 6, errUnless (winB at_ 0 604800) 2] = c) (hc : c ≠ 0) : takesR n road at_ = (0, 0, c) := by
  unfold takesR; rw [if_neg (by rw [h]; exact hc), h]
theorem rTakesR_c (r : Road) (at_ : Int) (hl : PtsOk r.pts) (hi : PtsInc r.pts) (h0 : 0 ≤ at_) (h1 : at_ ≤ 4000000000000000) : RealCall Try.prog 23 [.agg (cRoad r), .int .i64 at_] (.agg [.int .i64 (takesS r.pts at_ false), .int .i64 (takesS r.pts at_ true)]) true := by
  rw [← takes_same hl hi, ← takes_same hl hi]
  exact rTakes_c r.name r.frm r.to r.metres r.pts at_ hl h0 h1

set_option maxHeartbeats 4000000 in
theorem streetNets_c (hA : RealCall Try.prog 15 [] (.bool true) true) (n : Net) (road at_ : Int) : RealCall Try.prog 3 [aNet n, .int .i64 road, .int .i64 at_] (.bool true) true := by
  have cf := few_c n
  cases hf : fewB n with
  | false =>
    rw [hf] at cf
    unfold aNet cNet at *
    refine realcall_intro Try.func3 (by kernel_rfl) rfl (Nat.le_of_ble_eq_true (by kernel_rfl)) ?_
    simp only [Try.results3, Try.ntmps3]
    repeat' (first | (with_reducible first | refine awp_seq ?_ | refine awp_blockS ?_ | refine awp_blockC ?_ | refine awp_blockR ?_ | refine awp_skip ?_ | refine awp_ret ?_ | refine awp_exit ?_ | refine awp_region ?_ | refine awp_regionD (id := 16) 14 mixed (by decide +kernel) ?_ | refine awp_condM ?_ | refine And.intro ?_ ?_ | refine gM_splitN ?_ ?_ | refine gM_split ?_ ?_ | refine condM_splitDN ?_ ?_ | refine condM_splitD ?_ ?_ | refine condM_splitN ?_ ?_ | refine condM_split ?_ ?_ | refine condM_any ?_ ?_ | refine cw (hA) ?_ | refine cw (cf) ?_ | intro _) | (simp [*]))
  | true =>
    rw [hf] at cf
    have h := few_in hf
    have hnr := h.nr
    have cc := rCopy_c n h
    have c1 := checkNet_c n h
    have c2 := takes19_c n h road at_
    have c3 := rCheckNet_c n h
    have c4 := rRoadErr_c n road hnr
    have c5 := rTimeErr_c at_
    by_cases hE : (netS n).2.2 = 0
    · have ok := net_ok h hE
      cases hw : winB road 0 (n.roads.length - 1) with
      | false =>
        rw [takesR_bad (c := 6) (by rw [hE, hw]; rfl) (by decide)] at c2
        rw [hw] at c4
        unfold aNet cNet markP at *
        refine realcall_intro Try.func3 (by kernel_rfl) rfl (Nat.le_of_ble_eq_true (by kernel_rfl)) ?_
        simp only [Try.results3, Try.ntmps3]
        repeat' (first | (with_reducible first | refine awp_seq ?_ | refine awp_blockS ?_ | refine awp_blockC ?_ | refine awp_blockR ?_ | refine awp_skip ?_ | refine awp_ret ?_ | refine awp_exit ?_ | refine awp_region ?_ | refine awp_regionD (id := 16) 14 mixed (by decide +kernel) ?_ | refine awp_condM ?_ | refine And.intro ?_ ?_ | refine gM_splitN ?_ ?_ | refine gM_split ?_ ?_ | refine condM_splitDN ?_ ?_ | refine condM_splitD ?_ ?_ | refine condM_splitN ?_ ?_ | refine condM_split ?_ ?_ | refine condM_any ?_ ?_ | refine cw (hA) ?_ | refine cw (cf) ?_ | refine cw (cc) ?_ | refine cw (c1) ?_ | refine cw (c2) ?_ | refine cw (c3) ?_ | refine cw (c4) ?_ | refine cw (c5) ?_ | intro _) | (simp [*, errUnless]))
      | true =>
        rw [hw] at c4
        cases ht : winB at_ 0 604800 with
        | false =>
          rw [takesR_bad (c := 2) (by rw [hE, hw, ht]; rfl) (by decide)] at c2
          rw [ht] at c5
          unfold aNet cNet markP at *
          refine realcall_intro Try.func3 (by kernel_rfl) rfl (Nat.le_of_ble_eq_true (by kernel_rfl)) ?_
          simp only [Try.results3, Try.ntmps3]
          repeat' (first | (with_reducible first | refine awp_seq ?_ | refine awp_blockS ?_ | refine awp_blockC ?_ | refine awp_blockR ?_ | refine awp_skip ?_ | refine awp_ret ?_ | refine awp_exit ?_ | refine awp_region ?_ | refine awp_regionD (id := 16) 14 mixed (by decide +kernel) ?_ | refine awp_condM ?_ | refine And.intro ?_ ?_ | refine gM_splitN ?_ ?_ | refine gM_split ?_ ?_ | refine condM_splitDN ?_ ?_ | refine condM_splitD ?_ ?_ | refine condM_splitN ?_ ?_ | refine condM_split ?_ ?_ | refine condM_any ?_ ?_ | refine cw (hA) ?_ | refine cw (cf) ?_ | refine cw (cc) ?_ | refine cw (c1) ?_ | refine cw (c2) ?_ | refine cw (c3) ?_ | refine cw (c4) ?_ | refine cw (c5) ?_ | intro _) | (simp [*, errUnless]))
        | true =>
          rw [ht] at c5
          have h0 : firstS [(netS n).2.2, errUnless (winB road 0 (n.roads.length - 1)) 6, errUnless (winB at_ 0 604800) 2] = 0 := by rw [hE, hw, ht]; rfl
          have hr := win_of hw
          have hat := win_of ht
          obtain ⟨k, rfl⟩ := Int.eq_ofNat_of_zero_le hr.1
          have hk : k < n.roads.length := by omega
          have hT : takesR n k at_ = (takesS (nth n.roads k).pts at_ false, takesS (nth n.roads k).pts at_ true, 0) := by unfold takesR; rw [if_pos h0]; rfl
          rw [hT] at c2
          have c6 := rTakesR_c (nth n.roads k) at_ (ok.road k hk).pts (ok.road k hk).inc hat.1 (by omega)
          clear h0 hT ok hr hat hf hw ht
          unfold aNet cNet markP at *
          refine realcall_intro Try.func3 (by kernel_rfl) rfl (Nat.le_of_ble_eq_true (by kernel_rfl)) ?_
          simp only [Try.results3, Try.ntmps3]
          repeat' (first | (with_reducible first | refine awp_seq ?_ | refine awp_blockS ?_ | refine awp_blockC ?_ | refine awp_blockR ?_ | refine awp_skip ?_ | refine awp_ret ?_ | refine awp_exit ?_ | refine awp_region ?_ | refine awp_regionD (id := 16) 14 mixed (by decide +kernel) ?_ | refine awp_condM ?_ | refine And.intro ?_ ?_ | refine gM_splitN ?_ ?_ | refine gM_split ?_ ?_ | refine condM_splitDN ?_ ?_ | refine condM_splitD ?_ ?_ | refine condM_splitN ?_ ?_ | refine condM_split ?_ ?_ | refine condM_any ?_ ?_ | refine cw (hA) ?_ | refine cw (cf) ?_ | refine cw (cc) ?_ | refine cw (c1) ?_ | refine cw (c2) ?_ | refine cw (c3) ?_ | refine cw (c4) ?_ | refine cw (c5) ?_ | refine cw (c6) ?_ | intro _) | (simp [*, errUnless, hk]))
          all_goals first
            | omega
            | skip
    · rw [takesR_bad (c := (netS n).2.2) (by simp only [firstS]; rw [if_neg hE]) hE] at c2
      unfold aNet cNet markP at *
      refine realcall_intro Try.func3 (by kernel_rfl) rfl (Nat.le_of_ble_eq_true (by kernel_rfl)) ?_
      simp only [Try.results3, Try.ntmps3]
      repeat' (first | (with_reducible first | refine awp_seq ?_ | refine awp_blockS ?_ | refine awp_blockC ?_ | refine awp_blockR ?_ | refine awp_skip ?_ | refine awp_ret ?_ | refine awp_exit ?_ | refine awp_region ?_ | refine awp_regionD (id := 16) 14 mixed (by decide +kernel) ?_ | refine awp_condM ?_ | refine And.intro ?_ ?_ | refine gM_splitN ?_ ?_ | refine gM_split ?_ ?_ | refine condM_splitDN ?_ ?_ | refine condM_splitD ?_ ?_ | refine condM_splitN ?_ ?_ | refine condM_split ?_ ?_ | refine condM_any ?_ ?_ | refine cw (hA) ?_ | refine cw (cf) ?_ | refine cw (cc) ?_ | refine cw (c1) ?_ | refine cw (c2) ?_ | refine cw (c3) ?_ | refine cw (c4) ?_ | refine cw (c5) ?_ | intro _) | (simp [*]))
end Go.Proofs.Ytmedbghkldmlhaa
