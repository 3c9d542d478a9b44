/- Contracts of functions for this claim: lemmas alone. -/
import Derived.Test.YtfpamehamllndaaGreatDoorP21
set_option linter.unusedSimpArgs false
set_option linter.unusedVariables false
namespace Go.Proofs.YtfpamehamllndaaGreatDoor
open Go Go.Fi

/-- the net of the examples -/
def exNet : Net := ⟨[⟨#[97]⟩, ⟨#[98]⟩, ⟨#[99]⟩], [⟨⟨#[120]⟩, 0, 1, 1000, [⟨0, 100, 200⟩, ⟨3600, 700, 800⟩]⟩, ⟨⟨#[121]⟩, 1, 2, 500, [⟨0, 60, 90⟩]⟩, ⟨⟨#[122]⟩, 0, 2, 2000, [⟨0, 900, 900⟩]⟩]⟩
set_option maxHeartbeats 4000000 in
theorem exNet_c : RealCall Tryz.prog 14 [] (aNet exNet) true := by
  unfold aNet cNet exNet
  refine realcall_intro Tryz.func14 (by kernel_rfl) rfl (Nat.le_of_ble_eq_true (by kernel_rfl)) ?_
  simp only [Tryz.results14, Tryz.ntmps14]
  repeat' (first | (with_reducible first | refine awp_seq ?_ | refine awp_blockS ?_ | refine awp_blockC ?_ | refine awp_blockR ?_ | refine awp_skip ?_ | refine awp_ret ?_ | refine awp_exit ?_ | refine awp_region ?_ | refine awp_condM ?_ | refine And.intro ?_ ?_ | refine gE_splitN ?_ ?_ | refine gE_split ?_ ?_ | refine gQ_splitN ?_ ?_ | refine gQ_split ?_ ?_ | refine gM_splitN ?_ ?_ | refine gM_split ?_ ?_ | refine condM_splitDN ?_ ?_ | refine condM_splitD ?_ ?_ | refine condM_splitN ?_ ?_ | refine condM_split ?_ ?_ | refine condM_any ?_ ?_ | intro _) | (simp [*, strs, cRoads, cRoad, cPts]))
theorem ex_in : NetIn exNet := by
  refine ⟨by decide, by decide, fun k hk => ?_, fun k hk => ?_, fun k hk => ?_⟩
  all_goals
    have hk : k < 3 := hk
    match k, hk with
    | 0, _ => decide
    | 1, _ => decide
    | 2, _ => decide
theorem ex_takes : takesR exNet 0 1800 = (400, 500, 0) := by decide +kernel
theorem ex_est : estS exNet ⟨0, 2, 0⟩ = (160, 290, 0) := by decide +kernel
theorem ex_pE : pE exNet 0 2 = 0 := by decide +kernel
theorem ex_len : nth (growS fLen exNet 0 0).l 2 = 1500 := by decide +kernel
theorem ex_way : backF exNet (growS fLen exNet 0 0).b 10 2 = some [1, 0] := by decide +kernel
theorem ex_late : latestS exNet ⟨0, 2, 290⟩ = (0, 0) := by decide +kernel
theorem ex_net : (netS exNet).2.2 = 0 := by decide +kernel
set_option maxHeartbeats 4000000 in
theorem awake_c : RealCall Tryz.prog 4 [] (.bool true) true := by
  have c0 := exNet_c
  have c1 := takes19_c exNet ex_in 0 1800
  have c2 : RealCall Tryz.prog 15 [aNet exNet, .agg [.int .i64 0, .int .i64 2, .int .i64 0]] (markP (estS exNet ⟨0, 2, 0⟩)) true := estimate_c exNet ex_in ⟨0, 2, 0⟩
  have c3 := shortest_ok exNet ex_in 0 2 0 2 ⟨net_ok ex_in ex_net, by decide, by decide, rfl, rfl⟩ ex_pE (by rw [ex_len]; decide) 10 (by omega) [1, 0] ex_way
  have c4 : RealCall Tryz.prog 17 [aNet exNet, .agg [.int .i64 0, .int .i64 2, .int .i64 290]] (.tup [.int .i64 (latestS exNet ⟨0, 2, 290⟩).1, .int .i64 (latestS exNet ⟨0, 2, 290⟩).2]) true := latestFor_c exNet ex_in ⟨0, 2, 290⟩
  rw [ex_takes] at c1
  rw [ex_est] at c2
  rw [ex_len] at c3
  rw [ex_late] at c4
  generalize aNet exNet = N at *
  unfold markP at *
  refine realcall_intro Tryz.func4 (by kernel_rfl) rfl (Nat.le_of_ble_eq_true (by kernel_rfl)) ?_
  simp only [Tryz.results4, Tryz.ntmps4]
  repeat' (first | (with_reducible first | refine awp_seq ?_ | refine awp_blockS ?_ | refine awp_blockC ?_ | refine awp_blockR ?_ | refine awp_skip ?_ | refine awp_ret ?_ | refine awp_exit ?_ | refine awp_region ?_ | refine awp_condM ?_ | refine And.intro ?_ ?_ | refine gE_splitN ?_ ?_ | refine gE_split ?_ ?_ | refine gQ_splitN ?_ ?_ | refine gQ_split ?_ ?_ | refine gM_splitN ?_ ?_ | refine gM_split ?_ ?_ | refine condM_splitDN ?_ ?_ | refine condM_splitD ?_ ?_ | refine condM_splitN ?_ ?_ | refine condM_split ?_ ?_ | refine condM_any ?_ ?_ | refine cw (c0) ?_ | refine cw (c1) ?_ | refine cw (c2) ?_ | refine cw (c3) ?_ | refine cw (c4) ?_ | intro _) | (simp [*]))
end Go.Proofs.YtfpamehamllndaaGreatDoor

