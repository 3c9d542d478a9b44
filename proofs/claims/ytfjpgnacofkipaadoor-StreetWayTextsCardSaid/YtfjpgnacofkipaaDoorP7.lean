/- Contracts of functions for this claim: lemmas alone. -/
import Derived.Test.YtfjpgnacofkipaaDoorP3
set_option linter.unusedSimpArgs false
set_option linter.unusedVariables false
namespace Go.Proofs.YtfjpgnacofkipaaDoor
open Go Go.Fi

theorem tmod_bd (n b : Int) (h : 0 < b) : -b < n.tmod b ∧ n.tmod b < b := by
  have h1 := Int.natAbs_tmod n b
  have h2 : (n.tmod b).natAbs < b.natAbs := by rw [h1]; exact Nat.mod_lt _ (by omega)
  omega
theorem tmod_emod (n b : Int) (h : 0 < b) : (if n.tmod b < 0 then n.tmod b + b else n.tmod b) = n % b := by
  have hb := tmod_bd n b h
  have h1 : n % b = n.tmod b % b := by
    conv => lhs; rw [← Int.mul_tdiv_add_tmod n b]
    rw [Int.mul_add_emod_self_left]
  rw [h1]
  split
  · rw [← Int.add_emod_right, Int.emod_eq_of_lt (by omega) (by omega)]
  · rw [Int.emod_eq_of_lt (by omega) (by omega)]
theorem rMod_c (n b : Int) (h : 0 < b) (hb : b ≤ 1000000) : RealCall Tryd.prog 77 [.int .i64 n, .int .i64 b] (.int .i64 (n % b)) true := by
  have h1 := tmod_bd n b h
  have h2 := tmod_emod n b h
  have h0 : b ≠ 0 := by omega
  rw [← h2]
  clear h2
  refine realcall_intro Tryd.func77 (by kernel_rfl) rfl (Nat.le_of_ble_eq_true (by kernel_rfl)) ?_
  simp only [Tryd.results77, Tryd.ntmps77]
  repeat' (first | (with_reducible first | refine awp_seq ?_ | refine awp_blockS ?_ | refine awp_blockC ?_ | refine awp_blockR ?_ | refine awp_skip ?_ | refine awp_ret ?_ | refine awp_exit ?_ | refine awp_region ?_ | refine awp_condM ?_ | refine And.intro ?_ ?_ | refine gE_splitN ?_ ?_ | refine gE_split ?_ ?_ | refine gQ_splitN ?_ ?_ | refine gQ_split ?_ ?_ | refine gM_splitN ?_ ?_ | refine gM_split ?_ ?_ | refine condM_splitDN ?_ ?_ | refine condM_splitD ?_ ?_ | refine condM_splitN ?_ ?_ | refine condM_split ?_ ?_ | refine condM_any ?_ ?_ | intro _) | (simp [*]))
  all_goals first
    | exact inI64 (by omega) (by omega)
    | omega
    | (rw [if_pos (by omega)]; done)
    | (rw [if_neg (by omega)]; done)
end Go.Proofs.YtfjpgnacofkipaaDoor
namespace Go.Proofs.YtfjpgnacofkipaaDoor
open Go Go.Fi

end Go.Proofs.YtfjpgnacofkipaaDoor

