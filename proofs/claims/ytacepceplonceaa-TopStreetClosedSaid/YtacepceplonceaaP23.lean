/- Contracts of functions for this claim: lemmas alone. -/
import Derived.Test.YtacepceplonceaaP22
set_option linter.unusedSimpArgs false
set_option linter.unusedVariables false
namespace Go.Proofs.Ytacepceplonceaa
open Go Go.Fi

/-- the net of the examples -/
def exNet : Net := ⟨[⟨#[97]⟩, ⟨#[98]⟩, ⟨#[99]⟩], [⟨⟨#[120]⟩, 0, 1, 1000, [⟨0, 100, 200⟩, ⟨3600, 700, 800⟩]⟩, ⟨⟨#[121]⟩, 1, 2, 500, [⟨0, 60, 90⟩]⟩, ⟨⟨#[122]⟩, 0, 2, 2000, [⟨0, 900, 900⟩]⟩]⟩
set_option maxHeartbeats 4000000 in
theorem exNet_c : RealCall Try.prog 15 [] (aNet exNet) true := by
  unfold aNet cNet exNet
  refine realcall_intro Try.func15 (by kernel_rfl) rfl (Nat.le_of_ble_eq_true (by kernel_rfl)) ?_
  simp only [Try.results15, Try.ntmps15]
  repeat' (first | (with_reducible first | refine awp_seq ?_ | refine awp_blockS ?_ | refine awp_blockC ?_ | refine awp_blockR ?_ | refine awp_skip ?_ | refine awp_ret ?_ | refine awp_exit ?_ | refine awp_region ?_ | refine awp_condM ?_ | refine And.intro ?_ ?_ | refine gM_splitN ?_ ?_ | refine gM_split ?_ ?_ | refine condM_splitDN ?_ ?_ | refine condM_splitD ?_ ?_ | refine condM_splitN ?_ ?_ | refine condM_split ?_ ?_ | refine condM_any ?_ ?_ | intro _) | (simp [*, strs, cRoads, cRoad, cPts]))
theorem ex_in : NetIn exNet := by
  refine ⟨by decide, by decide, fun k hk => ?_, fun k hk => ?_, fun k hk => ?_⟩
  all_goals
    have hk : k < 3 := hk
    match k, hk with
    | 0, _ => decide
    | 1, _ => decide
    | 2, _ => decide
theorem ex_takes : takesR exNet 0 1800 = (400, 500, 0) := by decide +kernel
theorem ex_est : estS exNet ⟨0, 2, 0⟩ = (160, 290, 0) := by decide +kernel
theorem ex_pE : pE exNet 0 2 = 0 := by decide +kernel
theorem ex_len : nth (growS fLen exNet 0 0).l 2 = 1500 := by decide +kernel
theorem ex_way : backF exNet (growS fLen exNet 0 0).b 10 2 = some [1, 0] := by decide +kernel
theorem ex_late : latestS exNet ⟨0, 2, 290⟩ = (0, 0) := by decide +kernel
theorem ex_net : (netS exNet).2.2 = 0 := by decide +kernel
end Go.Proofs.Ytacepceplonceaa
