/- Contracts of functions for this claim: lemmas alone. -/
import Derived.Test.YtpjhpmpbdfeajaaGreatDoorP22
set_option linter.unusedSimpArgs false
set_option linter.unusedVariables false
namespace Go.Proofs.YtpjhpmpbdfeajaaGreatDoor
open Go Go.Fi
set_option maxRecDepth 20000
attribute [-simp] cEntries_drop2

theorem putS_abs (n : ByteArray) : ∀ l : List Line, (∀ k, k < l.length → -1000000000 ≤ (nth l k).amt ∧ (nth l k).amt ≤ 1000000000) → -(1000000000 * (l.length : Int)) ≤ putS n l ∧ putS n l ≤ 1000000000 * (l.length : Int)
  | [], _ => by simp
  | y :: l, h => by
    have h0 := h 0 (by simp)
    rw [show nth (y :: l) 0 = y from rfl] at h0
    have ih := putS_abs n l (fun k hk => h (k + 1) (by simpa using hk))
    simp only [putS, List.length_cons]
    split <;> omega
def balS (n : ByteArray) (d : Int) : List Entry → Int
  | [] => 0
  | e :: r => (if e.date ≤ d then putS n e.lines else 0) + balS n d r
@[simp] theorem balS_nil (n : ByteArray) (d : Int) : balS n d [] = 0 := rfl
theorem balS_snoc (n : ByteArray) (d : Int) (y : Entry) : ∀ l : List Entry, balS n d (l ++ [y]) = balS n d l + (if y.date ≤ d then putS n y.lines else 0)
  | [] => by simp [balS]
  | x :: l => by simp only [List.cons_append, balS, balS_snoc n d y l]; omega
theorem balS_succ (n : ByteArray) (d : Int) (l : List Entry) (k : Nat) (h : k < l.length) : balS n d (l.take (k + 1)) = balS n d (l.take k) + (if (nth l k).date ≤ d then putS n (nth l k).lines else 0) := by
  rw [take_succ_nth l k h, balS_snoc]
structure EntsIn (l : List Entry) : Prop where
  len : l.length < 10000
  ent : ∀ k, k < l.length → LinesIn (nth l k).lines
theorem putS_big (n : ByteArray) (l : List Line) (h : LinesIn l) : -100000000000000 ≤ putS n l ∧ putS n l ≤ 100000000000000 := by
  have hh := putS_abs n l h.amt
  have hl := h.len
  omega
set_option maxHeartbeats 1000000 in
theorem balance_c (b : Book) (n : ByteArray) (d : Int) (hl : EntsIn b.entries) : RealCall Tryz.prog 74 [.agg (cBook b), .str n, .int .i64 d] (.int .i64 (balS n d b.entries)) true := by
  obtain ⟨hlen, hent⟩ := hl
  obtain ⟨ba, be, bc⟩ := b
  unfold cBook
  dsimp only at *
  have ka := keep hent
  clear hent
  refine realcall_intro Tryz.func74 (by kernel_rfl) rfl (Nat.le_of_ble_eq_true (by kernel_rfl)) ?_
  simp only [Tryz.results74, Tryz.ntmps74]
  repeat' (first | (with_reducible first | refine awp_seq ?_ | refine awp_blockS ?_ | refine awp_blockC ?_ | refine awp_blockR ?_ | refine awp_skip ?_ | refine awp_ret ?_ | refine awp_exit ?_ | refine awp_region ?_ | refine awp_condM ?_ | refine And.intro ?_ ?_ | apply gQ_merge | apply gE_merge | exact EqV_w | exact EqE_w | exact EqV_ptr | exact EqE_ptr | exact EqV_msl | exact EqE_msl | exact EqV_agg | exact EqE_agg | exact EqV_fn | exact EqE_fn | exact EqV_gd | exact EqE_gd | refine gM_splitN ?_ ?_ | refine gM_split ?_ ?_ |  refine condM_splitDN ?_ ?_ | refine condM_splitD ?_ ?_ | refine condM_splitN ?_ ?_ | refine condM_split ?_ ?_ | refine condM_any ?_ ?_ | intro _) | (simp [*]))
  refine awp_for3 (fun (k : Nat) => k ≤ be.length ∧ (-(100000000000000 * (k : Int)) ≤ balS n d (be.take k) ∧ balS n d (be.take k) ≤ 100000000000000 * (k : Int))) [1, 2, 14, 15] (fun (k : Nat) => [(16, .w false false (.int .i64 k)), (7, .w false false (.int .i64 (balS n d (be.take k))))]) [] (fun (k : Nat) => []) (fun (k : Nat) => be.length - k) (fun (_u : Unit) => True) [] (fun (_u : Unit) => [(7, .w false false (.int .i64 (balS n d be)))]) [] (fun (_u : Unit) => []) (0) ⟨Nat.zero_le _, by simp, by simp⟩ (by simp) (by simp) (fun k hk => ?_) (fun _u hf => ?_)
  · obtain ⟨hk, b1, b2⟩ := hk
    by_cases hlt : k < be.length
    · have he := (show ∀ k, k < be.length → LinesIn (nth be k).lines from ka) k hlt
      obtain ⟨a1, a2⟩ := putS_big n _ he
      have c1 := put_c (nth be k) n he
      clear he
      have hs := balS_succ n d be k hlt
      generalize balS n d (be.take k) = S at *
      by_cases hq : (nth be k).date ≤ d
      · rw [if_pos hq] at hs
        have ks := keep hs
        clear hs
        generalize putS n (nth be k).lines = p at *
        unfold cEntry at c1
        repeat' (first | (with_reducible first | refine awp_seq ?_ | refine awp_blockS ?_ | refine awp_blockC ?_ | refine awp_blockR ?_ | refine awp_skip ?_ | refine awp_ret ?_ | refine awp_exit ?_ | refine awp_region ?_ | refine awp_condM ?_ | refine And.intro ?_ ?_ | apply gQ_merge | apply gE_merge | exact EqV_w | exact EqE_w | exact EqV_ptr | exact EqE_ptr | exact EqV_msl | exact EqE_msl | exact EqV_agg | exact EqE_agg | exact EqV_fn | exact EqE_fn | exact EqV_gd | exact EqE_gd | refine gM_splitN ?_ ?_ | refine gM_split ?_ ?_ |  refine condM_splitDN ?_ ?_ | refine condM_splitD ?_ ?_ | refine condM_splitN ?_ ?_ | refine condM_split ?_ ?_ | refine condM_any ?_ ?_ | refine cw (c1) ?_ | intro _) | (simp [*, hlt, hq, cEntry]) | (refine cw_eq (c1) ?_ ?_; (· (simp [*]; done))))
        all_goals first
          | exact inI64 (by omega) (by omega)
          | omega
          | (refine loopK_normal _ _ _ _ _ (k + 1) _ ?_ (by first | omega | (dsimp only; omega) | (simp; omega)) ?_; (· refine ⟨by omega, ?_, ?_⟩ <;> (rw [show balS n d (be.take (k + 1)) = _ from ks]; omega)); (refine le_of ?_ ?_ <;> first | trivial | (simp [*, show balS n d (be.take (k + 1)) = _ from ks]; done)))
          | skip
      · rw [if_neg hq, Int.add_zero] at hs
        have ks := keep hs
        clear hs
        repeat' (first | (with_reducible first | refine awp_seq ?_ | refine awp_blockS ?_ | refine awp_blockC ?_ | refine awp_blockR ?_ | refine awp_skip ?_ | refine awp_ret ?_ | refine awp_exit ?_ | refine awp_region ?_ | refine awp_condM ?_ | refine And.intro ?_ ?_ | apply gQ_merge | apply gE_merge | exact EqV_w | exact EqE_w | exact EqV_ptr | exact EqE_ptr | exact EqV_msl | exact EqE_msl | exact EqV_agg | exact EqE_agg | exact EqV_fn | exact EqE_fn | exact EqV_gd | exact EqE_gd | refine gM_splitN ?_ ?_ | refine gM_split ?_ ?_ |  refine condM_splitDN ?_ ?_ | refine condM_splitD ?_ ?_ | refine condM_splitN ?_ ?_ | refine condM_split ?_ ?_ | refine condM_any ?_ ?_ | intro _) | (simp [*, hlt, hq, cEntry]))
        all_goals first
          | exact inI64 (by omega) (by omega)
          | omega
          | (refine loopK_normal _ _ _ _ _ (k + 1) _ ?_ (by first | omega | (dsimp only; omega) | (simp; omega)) ?_; (· refine ⟨by omega, ?_, ?_⟩ <;> (rw [show balS n d (be.take (k + 1)) = _ from ks]; omega)); (refine le_of ?_ ?_ <;> first | trivial | (simp [*, show balS n d (be.take (k + 1)) = _ from ks]; done)))
          | skip
    · have hke : k = be.length := by omega
      subst hke
      rw [List.take_length] at *
      repeat' (first | (with_reducible first | refine awp_seq ?_ | refine awp_blockS ?_ | refine awp_blockC ?_ | refine awp_blockR ?_ | refine awp_skip ?_ | refine awp_ret ?_ | refine awp_exit ?_ | refine awp_region ?_ | refine awp_condM ?_ | refine And.intro ?_ ?_ | apply gQ_merge | apply gE_merge | exact EqV_w | exact EqE_w | exact EqV_ptr | exact EqE_ptr | exact EqV_msl | exact EqE_msl | exact EqV_agg | exact EqE_agg | exact EqV_fn | exact EqE_fn | exact EqV_gd | exact EqE_gd | refine gM_splitN ?_ ?_ | refine gM_split ?_ ?_ |  refine condM_splitDN ?_ ?_ | refine condM_splitD ?_ ?_ | refine condM_splitN ?_ ?_ | refine condM_split ?_ ?_ | refine condM_any ?_ ?_ | intro _) | (simp [*]))
      all_goals (refine finW_intro () ?_ ?_; (· trivial); (refine le_of ?_ ?_ <;> first | trivial | (simp [*, List.take_length]; done)))
  · clear hf
    repeat' (first | (with_reducible first | refine awp_seq ?_ | refine awp_blockS ?_ | refine awp_blockC ?_ | refine awp_blockR ?_ | refine awp_skip ?_ | refine awp_ret ?_ | refine awp_exit ?_ | refine awp_region ?_ | refine awp_condM ?_ | refine And.intro ?_ ?_ | apply gQ_merge | apply gE_merge | exact EqV_w | exact EqE_w | exact EqV_ptr | exact EqE_ptr | exact EqV_msl | exact EqE_msl | exact EqV_agg | exact EqE_agg | exact EqV_fn | exact EqE_fn | exact EqV_gd | exact EqE_gd | refine gM_splitN ?_ ?_ | refine gM_split ?_ ?_ |  refine condM_splitDN ?_ ?_ | refine condM_splitD ?_ ?_ | refine condM_splitN ?_ ?_ | refine condM_split ?_ ?_ | refine condM_any ?_ ?_ | intro _) | (simp [*]))
end Go.Proofs.YtpjhpmpbdfeajaaGreatDoor
namespace Go.Proofs.YtpjhpmpbdfeajaaGreatDoor
open Go Go.Fi
set_option maxRecDepth 20000
attribute [-simp] cEntries_drop2

end Go.Proofs.YtpjhpmpbdfeajaaGreatDoor

