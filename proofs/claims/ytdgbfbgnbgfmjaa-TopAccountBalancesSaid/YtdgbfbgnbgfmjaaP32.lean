/- Contracts of functions for this claim: lemmas alone. -/
import Derived.Test.YtdgbfbgnbgfmjaaP22
import Derived.Test.YtdgbfbgnbgfmjaaP9
import Derived.Test.YtdgbfbgnbgfmjaaP29
set_option linter.unusedSimpArgs false
set_option linter.unusedVariables false
namespace Go.Proofs.Ytdgbfbgnbgfmjaa
open Go Go.Fi
set_option maxRecDepth 20000

/-! ### the guards, and copies -/
def allD {α : Type} (p : α → Bool) (l : List α) (k : Nat) : Bool := (l.drop k).all p
theorem allD_step {α : Type} [Inhabited α] {p : α → Bool} {l : List α} {k : Nat} (h : k < l.length) : allD p l k = (p (nth l k) && allD p l (k + 1)) := by
  unfold allD; rw [drop_nth l k h]; rfl
theorem allD_end {α : Type} (p : α → Bool) (l : List α) : allD p l l.length = true := by
  unfold allD; rw [List.drop_length]; rfl
@[simp] theorem accs_ones : ∀ l : List Acc, ones ((cAccs l).map (AV.w false false)) = true
  | [] => rfl
  | x :: r => accs_ones r
@[simp] theorem lines_ones : ∀ l : List Line, ones ((cLines l).map (AV.w false false)) = true
  | [] => rfl
  | x :: r => lines_ones r
theorem accs_flat : ∀ (l : List Acc) (x : PV), x ∈ cAccs l → flat x = true
  | [], _, h => by cases h
  | a :: r, x, h => by
    rcases List.mem_append.1 (show x ∈ cAcc a ++ cAccs r from h) with h | h
    · simp only [cAcc, List.mem_cons, List.not_mem_nil, or_false] at h
      rcases h with rfl | rfl <;> rfl
    · exact accs_flat r x h
theorem lines_flat : ∀ (l : List Line) (x : PV), x ∈ cLines l → flat x = true
  | [], _, h => by cases h
  | a :: r, x, h => by
    rcases List.mem_append.1 (show x ∈ cLine a ++ cLines r from h) with h | h
    · simp only [cLine, List.mem_cons, List.not_mem_nil, or_false] at h
      rcases h with rfl | rfl <;> rfl
    · exact lines_flat r x h
theorem copyNames_c (l : List Acc) (h : l.length < 100000) : RealCall Try.prog 32 [.sl l.length (cAccs l)] (.sl l.length (cAccs l)) true := by
  refine realcall_intro Try.func32 (by kernel_rfl) rfl (Nat.le_of_ble_eq_true (by kernel_rfl)) ?_
  simp only [Try.results32, Try.ntmps32]
  repeat' (first | (with_reducible first | refine awp_seq ?_ | refine awp_blockS ?_ | refine awp_blockC ?_ | refine awp_blockR ?_ | refine awp_skip ?_ | refine awp_ret ?_ | refine awp_exit ?_ | refine awp_region ?_ | refine awp_condM ?_ | refine And.intro ?_ ?_ | apply gQ_merge | apply gE_merge | exact EqV_w | exact EqE_w | exact EqV_ptr | exact EqE_ptr | exact EqV_msl | exact EqE_msl | exact EqV_agg | exact EqE_agg | exact EqV_fn | exact EqE_fn | exact EqV_gd | exact EqE_gd | refine gM_splitN ?_ ?_ | refine gM_split ?_ ?_ |  refine condM_splitDN ?_ ?_ | refine condM_splitD ?_ ?_ | refine condM_splitN ?_ ?_ | refine condM_split ?_ ?_ | refine condM_any ?_ ?_ | intro _) | (simp [*]))
  all_goals first | omega | exact accs_flat _ _ (by assumption) | skip
theorem copyEntry_c (e : Entry) (h : e.lines.length < 100000) : RealCall Try.prog 53 [.agg (cEntry e)] (.agg (cEntry e)) true := by
  obtain ⟨ed, en, el⟩ := e
  unfold cEntry
  dsimp only at *
  refine realcall_intro Try.func53 (by kernel_rfl) rfl (Nat.le_of_ble_eq_true (by kernel_rfl)) ?_
  simp only [Try.results53, Try.ntmps53]
  repeat' (first | (with_reducible first | refine awp_seq ?_ | refine awp_blockS ?_ | refine awp_blockC ?_ | refine awp_blockR ?_ | refine awp_skip ?_ | refine awp_ret ?_ | refine awp_exit ?_ | refine awp_region ?_ | refine awp_condM ?_ | refine And.intro ?_ ?_ | apply gQ_merge | apply gE_merge | exact EqV_w | exact EqE_w | exact EqV_ptr | exact EqE_ptr | exact EqV_msl | exact EqE_msl | exact EqV_agg | exact EqE_agg | exact EqV_fn | exact EqE_fn | exact EqV_gd | exact EqE_gd | refine gM_splitN ?_ ?_ | refine gM_split ?_ ?_ |  refine condM_splitDN ?_ ?_ | refine condM_splitD ?_ ?_ | refine condM_splitN ?_ ?_ | refine condM_split ?_ ?_ | refine condM_any ?_ ?_ | intro _) | (simp [*]))
  all_goals first | omega | exact lines_flat _ _ (by assumption) | skip
end Go.Proofs.Ytdgbfbgnbgfmjaa
namespace Go.Proofs.Ytdgbfbgnbgfmjaa
open Go Go.Fi
set_option maxRecDepth 20000

/-! ### AccountChecks -/
end Go.Proofs.Ytdgbfbgnbgfmjaa

