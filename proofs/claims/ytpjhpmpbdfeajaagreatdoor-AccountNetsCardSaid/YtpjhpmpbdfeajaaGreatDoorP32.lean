/- Contracts of functions for this claim: lemmas alone. -/
import Derived.Test.YtpjhpmpbdfeajaaGreatDoorP24
import Derived.Test.YtpjhpmpbdfeajaaGreatDoorP10
set_option linter.unusedSimpArgs false
set_option linter.unusedVariables false
namespace Go.Proofs.YtpjhpmpbdfeajaaGreatDoor
open Go Go.Fi
set_option maxRecDepth 20000

/-! ### the guards, and copies -/
def shortB (e : Entry) : Bool := (!(decide (20 < (e.note.size : Int)) || decide (14 < (e.lines.length : Int)))) && e.lines.all (fun y => decide (y.acc.size ≤ 20))
def allD {α : Type} (p : α → Bool) (l : List α) (k : Nat) : Bool := (l.drop k).all p
theorem allD_step {α : Type} [Inhabited α] {p : α → Bool} {l : List α} {k : Nat} (h : k < l.length) : allD p l k = (p (nth l k) && allD p l (k + 1)) := by
  unfold allD; rw [drop_nth l k h]; rfl
theorem allD_end {α : Type} (p : α → Bool) (l : List α) : allD p l l.length = true := by
  unfold allD; rw [List.drop_length]; rfl
set_option maxHeartbeats 4000000 in
theorem short_c (e : Entry) : RealCall Tryz.prog 16 [.agg (cEntry e)] (.bool (shortB e)) true := by
  unfold shortB
  obtain ⟨ed, en, m⟩ := e
  unfold cEntry
  dsimp only
  have hA : m.all (fun a => decide (a.acc.size ≤ 20)) = allD (fun a : Line => decide (a.acc.size ≤ 20)) m 0 := rfl
  rw [hA]
  generalize hA' : allD (fun a : Line => decide (a.acc.size ≤ 20)) m 0 = A
  have kA := keep hA'
  clear hA hA'
  by_cases h : 20 < (en.size : Int) ∨ 14 < (m.length : Int)
  · have e : ((!(decide (20 < (en.size : Int)) || decide (14 < (m.length : Int)))) && A) = false := by
      rcases h with h1 | h1
      · simp [h1]
      · simp [h1]
    rw [e]
    clear e
    refine realcall_intro Tryz.func16 (by kernel_rfl) rfl (Nat.le_of_ble_eq_true (by kernel_rfl)) ?_
    simp only [Tryz.results16, Tryz.ntmps16]
    repeat' (first | (with_reducible first | refine awp_seq ?_ | refine awp_blockS ?_ | refine awp_blockC ?_ | refine awp_blockR ?_ | refine awp_skip ?_ | refine awp_ret ?_ | refine awp_exit ?_ | refine awp_region ?_ | refine awp_condM ?_ | refine And.intro ?_ ?_ | apply gQ_merge | apply gE_merge | exact EqV_w | exact EqE_w | exact EqV_ptr | exact EqE_ptr | exact EqV_msl | exact EqE_msl | exact EqV_agg | exact EqE_agg | exact EqV_fn | exact EqE_fn | exact EqV_gd | exact EqE_gd | refine gM_splitN ?_ ?_ | refine gM_split ?_ ?_ |  refine condM_splitDN ?_ ?_ | refine condM_splitD ?_ ?_ | refine condM_splitN ?_ ?_ | refine condM_split ?_ ?_ | refine condM_any ?_ ?_ | intro _) | (simp [*]))
    all_goals (rename_i hc; exfalso; simp at hc; omega)
  · have h1 : (!(decide (20 < (en.size : Int)) || decide (14 < (m.length : Int)))) = true := by
      simp; omega
    rw [h1, Bool.true_and]
    clear h1
    have hml : m.length < 1000 := by omega
    have q1 : ¬ 20 < (en.size : Int) := by omega
    have q3 : ¬ 14 < (m.length : Int) := by omega
    clear h
    refine realcall_intro Tryz.func16 (by kernel_rfl) rfl (Nat.le_of_ble_eq_true (by kernel_rfl)) ?_
    simp only [Tryz.results16, Tryz.ntmps16]
    repeat' (first | (with_reducible first | refine awp_seq ?_ | refine awp_blockS ?_ | refine awp_blockC ?_ | refine awp_blockR ?_ | refine awp_skip ?_ | refine awp_ret ?_ | refine awp_exit ?_ | refine awp_region ?_ | refine awp_condM ?_ | refine And.intro ?_ ?_ | apply gQ_merge | apply gE_merge | exact EqV_w | exact EqE_w | exact EqV_ptr | exact EqE_ptr | exact EqV_msl | exact EqE_msl | exact EqV_agg | exact EqE_agg | exact EqV_fn | exact EqE_fn | exact EqV_gd | exact EqE_gd | refine gM_splitN ?_ ?_ | refine gM_split ?_ ?_ |  refine condM_splitDN ?_ ?_ | refine condM_splitD ?_ ?_ | refine condM_splitN ?_ ?_ | refine condM_split ?_ ?_ | refine condM_any ?_ ?_ | intro _) | (simp [*]))
    refine awp_for3 (fun (k : Nat) => k ≤ m.length ∧ allD (fun a : Line => decide (a.acc.size ≤ 20)) m k = A) [1] (fun (k : Nat) => [(3, .w false false (.int .i64 k))]) [0] (fun (k : Nat) => []) (fun (k : Nat) => m.length - k) (fun (_u : Unit) => A = true) [] (fun (_u : Unit) => []) [0] (fun (_u : Unit) => []) (0) ⟨Nat.zero_le _, kA⟩ (by simp) (by simp) (fun k hk => ?_) (fun _u hf => ?_)
    · obtain ⟨hk, hj⟩ := hk
      by_cases hlt : k < m.length
      · rw [allD_step hlt] at hj
        by_cases hr : 20 < ((nth m k).acc.size : Int)
        · have hA : A = false := by rw [← hj]; simp; omega
          clear hj kA
          subst hA
          repeat' (first | (with_reducible first | refine awp_seq ?_ | refine awp_blockS ?_ | refine awp_blockC ?_ | refine awp_blockR ?_ | refine awp_skip ?_ | refine awp_ret ?_ | refine awp_exit ?_ | refine awp_region ?_ | refine awp_condM ?_ | refine And.intro ?_ ?_ | apply gQ_merge | apply gE_merge | exact EqV_w | exact EqE_w | exact EqV_ptr | exact EqE_ptr | exact EqV_msl | exact EqE_msl | exact EqV_agg | exact EqE_agg | exact EqV_fn | exact EqE_fn | exact EqV_gd | exact EqE_gd | refine gM_splitN ?_ ?_ | refine gM_split ?_ ?_ |  refine condM_splitDN ?_ ?_ | refine condM_splitD ?_ ?_ | refine condM_splitN ?_ ?_ | refine condM_split ?_ ?_ | refine condM_any ?_ ?_ | intro _) | (simp [*, hlt, hr]))
          all_goals try first | exact inI64 (by omega) (by omega) | omega
        · have kj : Keep (allD (fun a : Line => decide (a.acc.size ≤ 20)) m (k + 1) = A) := keep (by rw [← hj, decide_eq_true (show (nth m k).acc.size ≤ 20 by omega), Bool.true_and])
          clear hj
          repeat' (first | (with_reducible first | refine awp_seq ?_ | refine awp_blockS ?_ | refine awp_blockC ?_ | refine awp_blockR ?_ | refine awp_skip ?_ | refine awp_ret ?_ | refine awp_exit ?_ | refine awp_region ?_ | refine awp_condM ?_ | refine And.intro ?_ ?_ | apply gQ_merge | apply gE_merge | exact EqV_w | exact EqE_w | exact EqV_ptr | exact EqE_ptr | exact EqV_msl | exact EqE_msl | exact EqV_agg | exact EqE_agg | exact EqV_fn | exact EqE_fn | exact EqV_gd | exact EqE_gd | refine gM_splitN ?_ ?_ | refine gM_split ?_ ?_ |  refine condM_splitDN ?_ ?_ | refine condM_splitD ?_ ?_ | refine condM_splitN ?_ ?_ | refine condM_split ?_ ?_ | refine condM_any ?_ ?_ | intro _) | (simp [*, hlt, hr]))
          all_goals first
            | exact inI64 (by omega) (by omega)
            | omega
            | (refine loopK_normal _ _ _ _ _ (k + 1) _ ?_ (by first | omega | (dsimp only; omega) | (simp; omega)) ?_; (· exact ⟨by omega, kj⟩); (refine le_of ?_ ?_ <;> first | trivial | (simp [*]; done)))
            | skip
      · have hke : k = m.length := by omega
        subst hke
        rw [allD_end] at hj
        have kj := keep hj.symm
        clear hj kA
        repeat' (first | (with_reducible first | refine awp_seq ?_ | refine awp_blockS ?_ | refine awp_blockC ?_ | refine awp_blockR ?_ | refine awp_skip ?_ | refine awp_ret ?_ | refine awp_exit ?_ | refine awp_region ?_ | refine awp_condM ?_ | refine And.intro ?_ ?_ | apply gQ_merge | apply gE_merge | exact EqV_w | exact EqE_w | exact EqV_ptr | exact EqE_ptr | exact EqV_msl | exact EqE_msl | exact EqV_agg | exact EqE_agg | exact EqV_fn | exact EqE_fn | exact EqV_gd | exact EqE_gd | refine gM_splitN ?_ ?_ | refine gM_split ?_ ?_ |  refine condM_splitDN ?_ ?_ | refine condM_splitD ?_ ?_ | refine condM_splitN ?_ ?_ | refine condM_split ?_ ?_ | refine condM_any ?_ ?_ | intro _) | (simp [*]))
        all_goals (refine finW_intro () ?_ ?_; (· exact kj); (refine le_of ?_ ?_ <;> first | trivial | (simp [*]; done)))
    · subst hf
      clear kA
      repeat' (first | (with_reducible first | refine awp_seq ?_ | refine awp_blockS ?_ | refine awp_blockC ?_ | refine awp_blockR ?_ | refine awp_skip ?_ | refine awp_ret ?_ | refine awp_exit ?_ | refine awp_region ?_ | refine awp_condM ?_ | refine And.intro ?_ ?_ | apply gQ_merge | apply gE_merge | exact EqV_w | exact EqE_w | exact EqV_ptr | exact EqE_ptr | exact EqV_msl | exact EqE_msl | exact EqV_agg | exact EqE_agg | exact EqV_fn | exact EqE_fn | exact EqV_gd | exact EqE_gd | refine gM_splitN ?_ ?_ | refine gM_split ?_ ?_ |  refine condM_splitDN ?_ ?_ | refine condM_splitD ?_ ?_ | refine condM_splitN ?_ ?_ | refine condM_split ?_ ?_ | refine condM_any ?_ ?_ | intro _) | (simp [*]))
@[simp] theorem accs_ones : ∀ l : List Acc, ones ((cAccs l).map (AV.w false false)) = true
  | [] => rfl
  | x :: r => accs_ones r
@[simp] theorem lines_ones : ∀ l : List Line, ones ((cLines l).map (AV.w false false)) = true
  | [] => rfl
  | x :: r => lines_ones r
theorem lines_flat : ∀ (l : List Line) (x : PV), x ∈ cLines l → flat x = true
  | [], _, h => by cases h
  | a :: r, x, h => by
    rcases List.mem_append.1 (show x ∈ cLine a ++ cLines r from h) with h | h
    · simp only [cLine, List.mem_cons, List.not_mem_nil, or_false] at h
      rcases h with rfl | rfl <;> rfl
    · exact lines_flat r x h
theorem copyEntry_c (e : Entry) (h : e.lines.length < 100000) : RealCall Tryz.prog 18 [.agg (cEntry e)] (.agg (cEntry e)) true := by
  obtain ⟨ed, en, el⟩ := e
  unfold cEntry
  dsimp only at *
  refine realcall_intro Tryz.func18 (by kernel_rfl) rfl (Nat.le_of_ble_eq_true (by kernel_rfl)) ?_
  simp only [Tryz.results18, Tryz.ntmps18]
  repeat' (first | (with_reducible first | refine awp_seq ?_ | refine awp_blockS ?_ | refine awp_blockC ?_ | refine awp_blockR ?_ | refine awp_skip ?_ | refine awp_ret ?_ | refine awp_exit ?_ | refine awp_region ?_ | refine awp_condM ?_ | refine And.intro ?_ ?_ | apply gQ_merge | apply gE_merge | exact EqV_w | exact EqE_w | exact EqV_ptr | exact EqE_ptr | exact EqV_msl | exact EqE_msl | exact EqV_agg | exact EqE_agg | exact EqV_fn | exact EqE_fn | exact EqV_gd | exact EqE_gd | refine gM_splitN ?_ ?_ | refine gM_split ?_ ?_ |  refine condM_splitDN ?_ ?_ | refine condM_splitD ?_ ?_ | refine condM_splitN ?_ ?_ | refine condM_split ?_ ?_ | refine condM_any ?_ ?_ | intro _) | (simp [*]))
  all_goals first | omega | exact lines_flat _ _ (by assumption) | skip
theorem shortB_in {e : Entry} (h : shortB e = true) : EntryIn e := by
  unfold shortB at h
  rw [Bool.and_eq_true] at h
  have h1 := h.1
  simp at h1
  exact ⟨by omega, by omega⟩
end Go.Proofs.YtpjhpmpbdfeajaaGreatDoor

