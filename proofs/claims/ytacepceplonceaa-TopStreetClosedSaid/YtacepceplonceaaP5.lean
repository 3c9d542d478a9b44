/- Contracts of functions for this claim: lemmas alone. -/
import Derived.Test.YtacepceplonceaaP4
set_option linter.unusedSimpArgs false
set_option linter.unusedVariables false
namespace Go.Proofs.Ytacepceplonceaa
open Go Go.Fi

def letterB (c : Nat) : Bool := decide ((97 : Int) ≤ c) && decide ((c : Int) ≤ 122) || decide ((65 : Int) ≤ c) && decide ((c : Int) ≤ 90)
def okB (k c : Nat) : Bool := letterB c || !(decide (k = 0)) && (decide (c = 45) || decide ((48 : Int) ≤ c) && decide ((c : Int) ≤ 57))
def okUpto (s : ByteArray) : Nat → Bool
  | 0 => true
  | k + 1 => okUpto s k && okB k (byteAt s k)
theorem okUpto_false (s : ByteArray) (k : Nat) (h : okB k (byteAt s k) = false) : ∀ n, k < n → okUpto s n = false
  | 0, hn => by omega
  | n + 1, hn => by
    unfold okUpto
    by_cases e : k = n
    · subst e; simp [h]
    · rw [okUpto_false s k h n (by omega)]; rfl
def nameB (s : ByteArray) : Bool := okUpto s s.size && decide (s.size ≠ 0) && decide (s.size ≤ 12)
theorem str_e (s : ByteArray) : s = ByteArray.empty ↔ s.size = 0 := str_empty s
theorem nameB_no0 {s : ByteArray} (h : s.size = 0) : nameB s = false := by simp [nameB, h]
theorem nameB_no12 {s : ByteArray} (h : 12 < s.size) : nameB s = false := by simp [nameB]; intros; omega
theorem nameB_yes {s : ByteArray} (h : okUpto s s.size = true) (h0 : s.size ≠ 0) : nameB s = decide (s.size ≤ 12) := by simp [nameB, h, h0]
set_option maxHeartbeats 4000000 in
theorem isName_c (s : ByteArray) (hs : s.size < 1000000) : RealCall Try.prog 48 [.str s] (.bool (nameB s)) true := by
  refine realcall_intro Try.func48 (by kernel_rfl) rfl (Nat.le_of_ble_eq_true (by kernel_rfl)) ?_
  simp only [Try.results48, Try.ntmps48]
  repeat' (first | (with_reducible first | refine awp_seq ?_ | refine awp_blockS ?_ | refine awp_blockC ?_ | refine awp_blockR ?_ | refine awp_skip ?_ | refine awp_ret ?_ | refine awp_exit ?_ | refine awp_region ?_ | refine awp_condM ?_ | refine And.intro ?_ ?_ | refine gM_splitN ?_ ?_ | refine gM_split ?_ ?_ | refine condM_splitDN ?_ ?_ | refine condM_splitD ?_ ?_ | refine condM_splitN ?_ ?_ | refine condM_split ?_ ?_ | refine condM_any ?_ ?_ | intro _) | (simp [*]))
  refine awp_for2 (fun k : Nat => k ≤ s.size ∧ okUpto s k = true) [0, 7, 8] (fun k => [(9, .w false false (.int .i64 k))]) (fun _ => []) (fun k => s.size - k)
    (fun _ : Unit => okUpto s s.size = true) [0] (fun _ => []) (fun _ => []) 0 ⟨Nat.zero_le _, rfl⟩ (by simp) (by simp) (fun k hk => ?_) (fun _ hf => ?_)
  · obtain ⟨hk, hf⟩ := hk
    repeat' (first | (with_reducible first | refine awp_seq ?_ | refine awp_blockS ?_ | refine awp_blockC ?_ | refine awp_blockR ?_ | refine awp_skip ?_ | refine awp_ret ?_ | refine awp_exit ?_ | refine awp_region ?_ | refine awp_condM ?_ | refine And.intro ?_ ?_ | refine gM_splitN ?_ ?_ | refine gM_split ?_ ?_ | refine condM_splitDN ?_ ?_ | refine condM_splitD ?_ ?_ | refine condM_splitN ?_ ?_ | refine condM_split ?_ ?_ | refine condM_any ?_ ?_ | intro _) | (simp [*]))
    all_goals first
      | exact inI64 (by omega) (by omega)
      | omega
      | (refine loopK_normal _ _ _ _ _ (k + 1) _ ?_ (by first | omega | (dsimp only; omega) | (simp; omega)) ?_; (· refine ⟨by omega, ?_⟩; unfold okUpto; rw [hf]; clear hf; simp [okB, letterB] at *; omega); (refine le_of ?_ ?_ <;> first | trivial | (simp [*]; done)))
      | (refine finW_intro () ?_ ?_; (· rw [show s.size = k by omega]; exact hf); (refine le_of ?_ ?_ <;> first | trivial | (simp [*]; done)))
      | (unfold nameB; rw [okUpto_false s k (by clear hf; simp [okB, letterB] at *; omega) s.size (by omega)]; rfl)
  · repeat' (first | (with_reducible first | refine awp_seq ?_ | refine awp_blockS ?_ | refine awp_blockC ?_ | refine awp_blockR ?_ | refine awp_skip ?_ | refine awp_ret ?_ | refine awp_exit ?_ | refine awp_region ?_ | refine awp_condM ?_ | refine And.intro ?_ ?_ | refine gM_splitN ?_ ?_ | refine gM_split ?_ ?_ | refine condM_splitDN ?_ ?_ | refine condM_splitD ?_ ?_ | refine condM_splitN ?_ ?_ | refine condM_split ?_ ?_ | refine condM_any ?_ ?_ | intro _) | (simp [*]))
    · rename_i h0
      have h0' : s ≠ { data := #[] } := by simpa using h0
      rw [nameB_yes hf (fun h => h0' ((str_empty s).2 h))]; simp; omega
    · rename_i h0; rw [nameB_no0 ((str_empty s).1 (by have h1 : s = { data := #[] } := by simpa using h0
                                                      exact h1))]
theorem rIsName_loop (s : ByteArray) : True := trivial
set_option maxHeartbeats 4000000 in
theorem rIsName_c (s : ByteArray) (hs : s.size < 1000000) : RealCall Try.prog 34 [.str s] (.bool (nameB s)) true := by
  refine realcall_intro Try.func34 (by kernel_rfl) rfl (Nat.le_of_ble_eq_true (by kernel_rfl)) ?_
  simp only [Try.results34, Try.ntmps34]
  repeat' (first | (with_reducible first | refine awp_seq ?_ | refine awp_blockS ?_ | refine awp_blockC ?_ | refine awp_blockR ?_ | refine awp_skip ?_ | refine awp_ret ?_ | refine awp_exit ?_ | refine awp_region ?_ | refine awp_condM ?_ | refine And.intro ?_ ?_ | refine gM_splitN ?_ ?_ | refine gM_split ?_ ?_ | refine condM_splitDN ?_ ?_ | refine condM_splitD ?_ ?_ | refine condM_splitN ?_ ?_ | refine condM_split ?_ ?_ | refine condM_any ?_ ?_ | intro _) | (simp [*]))
  · exact nameB_no12 (by omega)
  rotate_left
  · rename_i h0; exact nameB_no0 (by have := of_decide_eq_true h0; omega)
  rename_i hA hB
  have hpos : s.size ≠ 0 := by have := of_decide_eq_false hA; omega
  refine awp_for2 (fun k : Nat => k ≤ s.size ∧ okUpto s k = true) [0] (fun k => [(3, .w false false (.int .i64 k))]) (fun _ => []) (fun k => s.size - k)
    (fun _ : Unit => okUpto s s.size = true) [0] (fun _ => []) (fun _ => []) 0 ⟨Nat.zero_le _, rfl⟩ (by simp) (by simp) (fun k hk => ?_) (fun _ hf => ?_)
  · obtain ⟨hk, hf⟩ := hk
    repeat' (first | (with_reducible first | refine awp_seq ?_ | refine awp_blockS ?_ | refine awp_blockC ?_ | refine awp_blockR ?_ | refine awp_skip ?_ | refine awp_ret ?_ | refine awp_exit ?_ | refine awp_region ?_ | refine awp_condM ?_ | refine And.intro ?_ ?_ | refine gM_splitN ?_ ?_ | refine gM_split ?_ ?_ | refine condM_splitDN ?_ ?_ | refine condM_splitD ?_ ?_ | refine condM_splitN ?_ ?_ | refine condM_split ?_ ?_ | refine condM_any ?_ ?_ | intro _) | (simp [*]))
    all_goals first
      | exact inI64 (by omega) (by omega)
      | omega
      | (refine loopK_normal _ _ _ _ _ (k + 1) _ ?_ (by first | omega | (dsimp only; omega) | (simp; omega)) ?_; (· refine ⟨by omega, ?_⟩; unfold okUpto; rw [hf]; clear hf; simp [okB, letterB] at *; omega); (refine le_of ?_ ?_ <;> first | trivial | (simp [*]; done)))
      | (refine finW_intro () ?_ ?_; (· rw [show s.size = k by omega]; exact hf); (refine le_of ?_ ?_ <;> first | trivial | (simp [*]; done)))
      | (unfold nameB; rw [okUpto_false s k (by clear hf; simp [okB, letterB] at *; omega) s.size (by omega)]; rfl)
  · repeat' (first | (with_reducible first | refine awp_seq ?_ | refine awp_blockS ?_ | refine awp_blockC ?_ | refine awp_blockR ?_ | refine awp_skip ?_ | refine awp_ret ?_ | refine awp_exit ?_ | refine awp_region ?_ | refine awp_condM ?_ | refine And.intro ?_ ?_ | refine gM_splitN ?_ ?_ | refine gM_split ?_ ?_ | refine condM_splitDN ?_ ?_ | refine condM_splitD ?_ ?_ | refine condM_splitN ?_ ?_ | refine condM_split ?_ ?_ | refine condM_any ?_ ?_ | intro _) | (simp [*]))
    all_goals (rw [nameB_yes hf hpos]; simp; omega)
end Go.Proofs.Ytacepceplonceaa
