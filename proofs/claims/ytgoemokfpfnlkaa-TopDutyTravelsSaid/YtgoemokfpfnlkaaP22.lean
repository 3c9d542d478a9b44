/- Contracts of functions for this claim: lemmas alone. -/
import Derived.Test.YtgoemokfpfnlkaaP21
set_option linter.unusedSimpArgs false
set_option linter.unusedVariables false
namespace Go.Proofs.Ytgoemokfpfnlkaa
open Go Go.Fi

def searchF (p : Nat → Bool) : Nat → Nat → Nat → Nat
  | 0, i, _ => i
  | m + 1, i, j => if i < j then (if p ((i + j) / 2) = true then searchF p m i ((i + j) / 2) else searchF p m ((i + j) / 2 + 1) j) else i
set_option maxHeartbeats 4000000 in
theorem search_c (N : Nat) (hN : N ≤ 1000000) (g : Nat) (caps : List PV) (p : Nat → Bool) (hg : ∀ k : Nat, k < N → RealCall Try.prog g (.int .i64 k :: caps) (.bool (p k)) true) :
    RealCall Try.prog 28 [.int .i64 N, .fn g caps] (.int .i64 (searchF p N 0 N)) true := by
  generalize hR : searchF p N 0 N = R
  have kg := keep hg
  clear hg
  refine realcall_intro Try.func28 (by kernel_rfl) rfl (Nat.le_of_ble_eq_true (by kernel_rfl)) ?_
  simp only [Try.results28, Try.ntmps28]
  repeat' (first | (with_reducible first | refine awp_seq ?_ | refine awp_blockS ?_ | refine awp_blockC ?_ | refine awp_blockR ?_ | refine awp_skip ?_ | refine awp_ret ?_ | refine awp_exit ?_ | refine awp_region ?_ | refine awp_condM ?_ | refine And.intro ?_ ?_ | refine gE_splitN ?_ ?_ | refine gE_split ?_ ?_ | refine gQ_splitN ?_ ?_ | refine gQ_split ?_ ?_ | refine gM_splitN ?_ ?_ | refine gM_split ?_ ?_ | refine condM_splitDN ?_ ?_ | refine condM_splitD ?_ ?_ | refine condM_splitN ?_ ?_ | refine condM_split ?_ ?_ | refine condM_any ?_ ?_ | intro _) | (simp [*]))
  refine awp_for3 (fun (x : Nat × Nat × Nat) => x.2.2 ≤ x.1 + x.2.1 ∧ x.2.2 ≤ N ∧ x.2.1 ≤ N ∧ searchF p x.1 x.2.1 x.2.2 = R) [1] (fun (x : Nat × Nat × Nat) => [(5, .w false false (.int .i64 x.2.1)), (6, .w false false (.int .i64 x.2.2))]) [] (fun (x : Nat × Nat × Nat) => []) (fun (x : Nat × Nat × Nat) => x.1) (fun (_u : Unit) => True) [] (fun (_u : Unit) => [(5, .w false false (.int .i64 R))]) [] (fun (_u : Unit) => []) ((N, 0, N)) ⟨by simp, Nat.le_refl _, Nat.zero_le _, hR⟩ (by simp) (by simp) (fun x hk => ?_) (fun _u hf => ?_)
  · obtain ⟨m, i, j⟩ := x
    obtain ⟨h1, h2, h4, h3⟩ := hk
    dsimp only at h1 h2 h3 h4 ⊢
    by_cases hlt : i < j
    · cases m with
      | zero => omega
      | succ m =>
        have hmid : ((i : Int) + (j : Int)) / 2 = (((i + j) / 2 : Nat) : Int) := by omega
        have e : searchF p (m + 1) i j = if p ((i + j) / 2) = true then searchF p m i ((i + j) / 2) else searchF p m ((i + j) / 2 + 1) j := if_pos hlt
        rw [e] at h3
        have hc := kg ((i + j) / 2) (by omega)
        have hb1 : i ≤ (i + j) / 2 := by omega
        have hb2 : (i + j) / 2 < j := by omega
        clear e
        generalize hq : (i + j) / 2 = q at *
        cases hp : p q with
        | true =>
          rw [hp] at hc
          rw [if_pos hp] at h3
          clear kg hp hq
          repeat' (first | (with_reducible first | refine awp_seq ?_ | refine awp_blockS ?_ | refine awp_blockC ?_ | refine awp_blockR ?_ | refine awp_skip ?_ | refine awp_ret ?_ | refine awp_exit ?_ | refine awp_region ?_ | refine awp_condM ?_ | refine And.intro ?_ ?_ | refine gE_splitN ?_ ?_ | refine gE_split ?_ ?_ | refine gQ_splitN ?_ ?_ | refine gQ_split ?_ ?_ | refine gM_splitN ?_ ?_ | refine gM_split ?_ ?_ | refine condM_splitDN ?_ ?_ | refine condM_splitD ?_ ?_ | refine condM_splitN ?_ ?_ | refine condM_split ?_ ?_ | refine condM_any ?_ ?_ | refine cw (hc) ?_ | intro _) | (simp [*, hlt, hmid]))
          all_goals first
            | exact inI64 (by omega) (by omega)
            | exact inU64 (by omega) (by omega)
            | omega
            | (refine loopK_normal _ _ _ _ _ (m, i, q) _ ?_ (by first | omega | (dsimp only; omega) | (simp; omega)) ?_; (· exact ⟨by dsimp only; omega, by dsimp only; omega, h4, h3⟩); (refine le_of ?_ ?_ <;> first | trivial | (simp [*]; done)))
            | skip
        | false =>
          rw [hp] at hc
          rw [if_neg (by rw [hp]; decide)] at h3
          clear kg hp hq
          repeat' (first | (with_reducible first | refine awp_seq ?_ | refine awp_blockS ?_ | refine awp_blockC ?_ | refine awp_blockR ?_ | refine awp_skip ?_ | refine awp_ret ?_ | refine awp_exit ?_ | refine awp_region ?_ | refine awp_condM ?_ | refine And.intro ?_ ?_ | refine gE_splitN ?_ ?_ | refine gE_split ?_ ?_ | refine gQ_splitN ?_ ?_ | refine gQ_split ?_ ?_ | refine gM_splitN ?_ ?_ | refine gM_split ?_ ?_ | refine condM_splitDN ?_ ?_ | refine condM_splitD ?_ ?_ | refine condM_splitN ?_ ?_ | refine condM_split ?_ ?_ | refine condM_any ?_ ?_ | refine cw (hc) ?_ | intro _) | (simp [*, hlt, hmid]))
          all_goals first
            | exact inI64 (by omega) (by omega)
            | exact inU64 (by omega) (by omega)
            | omega
            | (refine loopK_normal _ _ _ _ _ (m, q + 1, j) _ ?_ (by first | omega | (dsimp only; omega) | (simp; omega)) ?_; (· exact ⟨by dsimp only; omega, h2, by dsimp only; omega, h3⟩); (refine le_of ?_ ?_ <;> first | trivial | (simp [*]; done)))
            | skip
    · have e : searchF p m i j = i := by
        cases m with
        | zero => rfl
        | succ m => exact if_neg hlt
      rw [e] at h3
      subst h3
      repeat' (first | (with_reducible first | refine awp_seq ?_ | refine awp_blockS ?_ | refine awp_blockC ?_ | refine awp_blockR ?_ | refine awp_skip ?_ | refine awp_ret ?_ | refine awp_exit ?_ | refine awp_region ?_ | refine awp_condM ?_ | refine And.intro ?_ ?_ | refine gE_splitN ?_ ?_ | refine gE_split ?_ ?_ | refine gQ_splitN ?_ ?_ | refine gQ_split ?_ ?_ | refine gM_splitN ?_ ?_ | refine gM_split ?_ ?_ | refine condM_splitDN ?_ ?_ | refine condM_splitD ?_ ?_ | refine condM_splitN ?_ ?_ | refine condM_split ?_ ?_ | refine condM_any ?_ ?_ | intro _) | (simp [*, hlt]))
      all_goals (refine finW_intro () ?_ ?_; (· trivial); (refine le_of ?_ ?_ <;> first | trivial | (simp [*]; done)))
  · repeat' (first | (with_reducible first | refine awp_seq ?_ | refine awp_blockS ?_ | refine awp_blockC ?_ | refine awp_blockR ?_ | refine awp_skip ?_ | refine awp_ret ?_ | refine awp_exit ?_ | refine awp_region ?_ | refine awp_condM ?_ | refine And.intro ?_ ?_ | refine gE_splitN ?_ ?_ | refine gE_split ?_ ?_ | refine gQ_splitN ?_ ?_ | refine gQ_split ?_ ?_ | refine gM_splitN ?_ ?_ | refine gM_split ?_ ?_ | refine condM_splitDN ?_ ?_ | refine condM_splitD ?_ ?_ | refine condM_splitN ?_ ?_ | refine condM_split ?_ ?_ | refine condM_any ?_ ?_ | intro _) | (simp [*]))
def lateB (n : Net) (t : Trip) (a b : Nat) (k : Nat) : Bool := decide (t.at_ < nth (growS (fTime true) n a k).l b)
def latestS (n : Net) (t : Trip) : Int × Int :=
  if otE n t ≠ 0 then (0, otE n t)
  else if nth (growS (fTime true) n t.frm.toNat 0).l t.to.toNat = -1 then (0, 12)
  else if searchF (lateB n t t.frm.toNat t.to.toNat) 604801 0 604801 = 0 then (0, 12)
  else ((searchF (lateB n t t.frm.toNat t.to.toNat) 604801 0 604801 : Int) - 1, 0)
theorem searchF_le (p : Nat → Bool) : ∀ m i j, i ≤ 1000000 → j ≤ 1000000 → searchF p m i j ≤ 1000000
  | 0, i, j, h, _ => h
  | m + 1, i, j, h1, h2 => by
    simp only [searchF]
    split
    · split
      · exact searchF_le p m _ _ h1 (by omega)
      · exact searchF_le p m _ _ (by omega) h2
    · exact h1
end Go.Proofs.Ytgoemokfpfnlkaa
