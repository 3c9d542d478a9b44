/- Contracts of functions for this claim: lemmas alone. -/
import Derived.Test.YtpjhpmpbdfeajaaGreatDoorP328
import Derived.Test.YtpjhpmpbdfeajaaGreatDoorP26
set_option linter.unusedSimpArgs false
set_option linter.unusedVariables false
namespace Go.Proofs.YtpjhpmpbdfeajaaGreatDoor
open Go Go.Fi
set_option maxRecDepth 20000

/-! ### copies of numbers -/
theorem ones_ints : ∀ l : List Int, ones ((ints l).map (AV.w false false)) = true
  | [] => rfl
  | x :: r => by
    have ih := ones_ints r
    show (AV.one (.w false false (.int .i64 x)) && ones ((ints r).map (AV.w false false))) = true
    rw [ih]; rfl
theorem copyInts_c (l : List Int) (hl : l.length < 100000) : RealCall Tryz.prog 8 [.sl l.length (ints l)] (.sl l.length (ints l)) true := by
  refine realcall_intro Tryz.func8 (by kernel_rfl) rfl (Nat.le_of_ble_eq_true (by kernel_rfl)) ?_
  simp only [Tryz.results8, Tryz.ntmps8]
  repeat' (first | (with_reducible first | refine awp_seq ?_ | refine awp_blockS ?_ | refine awp_blockC ?_ | refine awp_blockR ?_ | refine awp_skip ?_ | refine awp_ret ?_ | refine awp_exit ?_ | refine awp_region ?_ | refine awp_condM ?_ | refine And.intro ?_ ?_ | apply gQ_merge | apply gE_merge | exact EqV_w | exact EqE_w | exact EqV_ptr | exact EqE_ptr | exact EqV_msl | exact EqE_msl | exact EqV_agg | exact EqE_agg | exact EqV_fn | exact EqE_fn | exact EqV_gd | exact EqE_gd | refine gM_splitN ?_ ?_ | refine gM_split ?_ ?_ |  refine condM_splitDN ?_ ?_ | refine condM_splitD ?_ ?_ | refine condM_splitN ?_ ?_ | refine condM_split ?_ ?_ | refine condM_any ?_ ?_ | intro _) | (simp [*]))
  all_goals try first | exact inI64 (by omega) (by omega) | omega
  · exact ones_ints l
  · rename_i x hx
    unfold ints at hx
    obtain ⟨n, _, rfl⟩ := List.mem_map.1 hx
    rfl
end Go.Proofs.YtpjhpmpbdfeajaaGreatDoor

