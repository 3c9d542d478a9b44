/- Contracts of functions for this claim: lemmas alone. -/
import Derived.Test.YtlcimflkjfbaoaaGreatP110
import Derived.Test.YtlcimflkjfbaoaaGreatLj
import Derived.Test.YtlcimflkjfbaoaaGreatLo
set_option linter.unusedSimpArgs false
set_option linter.unusedVariables false
namespace Go.Proofs.YtlcimflkjfbaoaaGreat
open Go Go.Fi
set_option maxRecDepth 20000

/-! ### the tariff: small things -/
theorem tUnless_c (ok : Bool) (e : Int) : RealCall Tryz.prog 74 [.bool ok, .int .i64 e] (.int .i64 (errUnless ok e)) true := by
  refine realcall_intro Tryz.func74 (by kernel_rfl) rfl (Nat.le_of_ble_eq_true (by kernel_rfl)) ?_
  simp only [Tryz.results74, Tryz.ntmps74]
  repeat' (first | (with_reducible first | refine awp_seq ?_ | refine awp_blockS ?_ | refine awp_blockC ?_ | refine awp_blockR ?_ | refine awp_skip ?_ | refine awp_ret ?_ | refine awp_exit ?_ | refine awp_region ?_ | refine awp_condM ?_ | refine And.intro ?_ ?_ | refine gE_splitN ?_ ?_ | refine gE_split ?_ ?_ | refine gQ_splitN ?_ ?_ | refine gQ_split ?_ ?_ | refine gM_splitN ?_ ?_ | refine gM_split ?_ ?_ | refine condM_splitDN ?_ ?_ | refine condM_splitD ?_ ?_ | refine condM_splitN ?_ ?_ | refine condM_split ?_ ?_ | refine condM_any ?_ ?_ | intro _) | (simp [*]))
  all_goals simp_all [errUnless]
theorem tWithin_c (n lo hi : Int) : RealCall Tryz.prog 75 [.int .i64 n, .int .i64 lo, .int .i64 hi] (.bool (winB n lo hi)) true := by
  refine realcall_intro Tryz.func75 (by kernel_rfl) rfl (Nat.le_of_ble_eq_true (by kernel_rfl)) ?_
  simp only [Tryz.results75, Tryz.ntmps75]
  repeat' (first | (with_reducible first | refine awp_seq ?_ | refine awp_blockS ?_ | refine awp_blockC ?_ | refine awp_blockR ?_ | refine awp_skip ?_ | refine awp_ret ?_ | refine awp_exit ?_ | refine awp_region ?_ | refine awp_condM ?_ | refine And.intro ?_ ?_ | refine gE_splitN ?_ ?_ | refine gE_split ?_ ?_ | refine gQ_splitN ?_ ?_ | refine gQ_split ?_ ?_ | refine gM_splitN ?_ ?_ | refine gM_split ?_ ?_ | refine condM_splitDN ?_ ?_ | refine condM_splitD ?_ ?_ | refine condM_splitN ?_ ?_ | refine condM_split ?_ ?_ | refine condM_any ?_ ?_ | intro _) | (simp [*, winB]))
theorem tFirst_c (l : List Int) (h : l.length < 1000) : RealCall Tryz.prog 72 [.sl l.length (ints l)] (.int .i64 (firstS l)) true := by
  refine realcall_intro Tryz.func72 (by kernel_rfl) rfl (Nat.le_of_ble_eq_true (by kernel_rfl)) ?_
  simp only [Tryz.results72, Tryz.ntmps72]
  repeat' (first | (with_reducible first | refine awp_seq ?_ | refine awp_blockS ?_ | refine awp_blockC ?_ | refine awp_blockR ?_ | refine awp_skip ?_ | refine awp_ret ?_ | refine awp_exit ?_ | refine awp_region ?_ | refine awp_condM ?_ | refine And.intro ?_ ?_ | refine gE_splitN ?_ ?_ | refine gE_split ?_ ?_ | refine gQ_splitN ?_ ?_ | refine gQ_split ?_ ?_ | refine gM_splitN ?_ ?_ | refine gM_split ?_ ?_ | refine condM_splitDN ?_ ?_ | refine condM_splitD ?_ ?_ | refine condM_splitN ?_ ?_ | refine condM_split ?_ ?_ | refine condM_any ?_ ?_ | intro _) | (simp [*]))
  refine awp_for2 (fun k : Nat => k ≤ l.length ∧ firstS (l.drop k) = firstS l) [5, 6] (fun k => [(7, .w false false (.int .i64 k))]) (fun _ => []) (fun k => l.length - k)
    (fun _ : Unit => firstS l = 0) [] (fun _ => []) (fun _ => []) 0 ⟨Nat.zero_le _, rfl⟩ (by simp) (by simp) (fun k hk => ?_) (fun _ hf => ?_)
  · obtain ⟨hk, hf⟩ := hk
    repeat' (first | (with_reducible first | refine awp_seq ?_ | refine awp_blockS ?_ | refine awp_blockC ?_ | refine awp_blockR ?_ | refine awp_skip ?_ | refine awp_ret ?_ | refine awp_exit ?_ | refine awp_region ?_ | refine awp_condM ?_ | refine And.intro ?_ ?_ | refine gE_splitN ?_ ?_ | refine gE_split ?_ ?_ | refine gQ_splitN ?_ ?_ | refine gQ_split ?_ ?_ | refine gM_splitN ?_ ?_ | refine gM_split ?_ ?_ | refine condM_splitDN ?_ ?_ | refine condM_splitD ?_ ?_ | refine condM_splitN ?_ ?_ | refine condM_split ?_ ?_ | refine condM_any ?_ ?_ | intro _) | (simp [*, firstS]))
    all_goals first
      | exact inI64 (by omega) (by omega)
      | omega
      | (rw [← hf, drop_nth l k (by omega)]; simp_all [firstS]; done)
      | (refine loopK_normal _ _ _ _ _ (k + 1) _ ?_ (by first | omega | (dsimp only; omega) | (simp; omega)) ?_; (· refine ⟨by omega, ?_⟩; rw [← hf, drop_nth l k (by omega)]; simp_all [firstS]); (refine le_of ?_ ?_ <;> first | trivial | (simp [*]; done)))
      | (refine finW_intro () ?_ ?_; (· rw [← hf, List.drop_eq_nil_of_le (by omega)]; rfl); (refine le_of ?_ ?_ <;> first | trivial | (simp [*]; done)))
  · repeat' (first | (with_reducible first | refine awp_seq ?_ | refine awp_blockS ?_ | refine awp_blockC ?_ | refine awp_blockR ?_ | refine awp_skip ?_ | refine awp_ret ?_ | refine awp_exit ?_ | refine awp_region ?_ | refine awp_condM ?_ | refine And.intro ?_ ?_ | refine gE_splitN ?_ ?_ | refine gE_split ?_ ?_ | refine gQ_splitN ?_ ?_ | refine gQ_split ?_ ?_ | refine gM_splitN ?_ ?_ | refine gM_split ?_ ?_ | refine condM_splitDN ?_ ?_ | refine condM_splitD ?_ ?_ | refine condM_splitN ?_ ?_ | refine condM_split ?_ ?_ | refine condM_any ?_ ?_ | intro _) | (simp [*]))
theorem tFirst2_c (a b : Int) : RealCall Tryz.prog 72 [.sl 2 [.int .i64 a, .int .i64 b]] (.int .i64 (firstS [a, b])) true := tFirst_c [a, b] (Nat.le_of_ble_eq_true rfl)
theorem tFirst3_c (a b c : Int) : RealCall Tryz.prog 72 [.sl 3 [.int .i64 a, .int .i64 b, .int .i64 c]] (.int .i64 (firstS [a, b, c])) true := tFirst_c [a, b, c] (Nat.le_of_ble_eq_true rfl)
theorem tFirst6_c (a b c d e f : Int) : RealCall Tryz.prog 72 [.sl 6 [.int .i64 a, .int .i64 b, .int .i64 c, .int .i64 d, .int .i64 e, .int .i64 f]] (.int .i64 (firstS [a, b, c, d, e, f])) true := tFirst_c [a, b, c, d, e, f] (Nat.le_of_ble_eq_true rfl)
set_option maxHeartbeats 4000000 in
theorem tIsName_c (s : ByteArray) (hs : s.size < 1000000) : RealCall Tryz.prog 128 [.str s] (.bool (nameB s)) true := by
  refine realcall_intro Tryz.func128 (by kernel_rfl) rfl (Nat.le_of_ble_eq_true (by kernel_rfl)) ?_
  simp only [Tryz.results128, Tryz.ntmps128]
  repeat' (first | (with_reducible first | refine awp_seq ?_ | refine awp_blockS ?_ | refine awp_blockC ?_ | refine awp_blockR ?_ | refine awp_skip ?_ | refine awp_ret ?_ | refine awp_exit ?_ | refine awp_region ?_ | refine awp_condM ?_ | refine And.intro ?_ ?_ | refine gE_splitN ?_ ?_ | refine gE_split ?_ ?_ | refine gQ_splitN ?_ ?_ | refine gQ_split ?_ ?_ | refine gM_splitN ?_ ?_ | refine gM_split ?_ ?_ | refine condM_splitDN ?_ ?_ | refine condM_splitD ?_ ?_ | refine condM_splitN ?_ ?_ | refine condM_split ?_ ?_ | refine condM_any ?_ ?_ | intro _) | (simp [*]))
  refine awp_for2 (fun k : Nat => k ≤ s.size ∧ okUpto s k = true) [0, 7, 8] (fun k => [(9, .w false false (.int .i64 k))]) (fun _ => []) (fun k => s.size - k)
    (fun _ : Unit => okUpto s s.size = true) [0] (fun _ => []) (fun _ => []) 0 ⟨Nat.zero_le _, rfl⟩ (by simp) (by simp) (fun k hk => ?_) (fun _ hf => ?_)
  · obtain ⟨hk, hf⟩ := hk
    repeat' (first | (with_reducible first | refine awp_seq ?_ | refine awp_blockS ?_ | refine awp_blockC ?_ | refine awp_blockR ?_ | refine awp_skip ?_ | refine awp_ret ?_ | refine awp_exit ?_ | refine awp_region ?_ | refine awp_condM ?_ | refine And.intro ?_ ?_ | refine gE_splitN ?_ ?_ | refine gE_split ?_ ?_ | refine gQ_splitN ?_ ?_ | refine gQ_split ?_ ?_ | refine gM_splitN ?_ ?_ | refine gM_split ?_ ?_ | refine condM_splitDN ?_ ?_ | refine condM_splitD ?_ ?_ | refine condM_splitN ?_ ?_ | refine condM_split ?_ ?_ | refine condM_any ?_ ?_ | intro _) | (simp [*]))
    all_goals first
      | exact inI64 (by omega) (by omega)
      | omega
      | (refine loopK_normal _ _ _ _ _ (k + 1) _ ?_ (by first | omega | (dsimp only; omega) | (simp; omega)) ?_; (· refine ⟨by omega, ?_⟩; unfold okUpto; rw [hf]; clear hf; simp [okB, letterB] at *; omega); (refine le_of ?_ ?_ <;> first | trivial | (simp [*]; done)))
      | (refine finW_intro () ?_ ?_; (· rw [show s.size = k by omega]; exact hf); (refine le_of ?_ ?_ <;> first | trivial | (simp [*]; done)))
      | (unfold nameB; rw [okUpto_false s k (by clear hf; simp [okB, letterB] at *; omega) s.size (by omega)]; rfl)
  · repeat' (first | (with_reducible first | refine awp_seq ?_ | refine awp_blockS ?_ | refine awp_blockC ?_ | refine awp_blockR ?_ | refine awp_skip ?_ | refine awp_ret ?_ | refine awp_exit ?_ | refine awp_region ?_ | refine awp_condM ?_ | refine And.intro ?_ ?_ | refine gE_splitN ?_ ?_ | refine gE_split ?_ ?_ | refine gQ_splitN ?_ ?_ | refine gQ_split ?_ ?_ | refine gM_splitN ?_ ?_ | refine gM_split ?_ ?_ | refine condM_splitDN ?_ ?_ | refine condM_splitD ?_ ?_ | refine condM_splitN ?_ ?_ | refine condM_split ?_ ?_ | refine condM_any ?_ ?_ | intro _) | (simp [*]))
    · rename_i h0
      have h0' : s ≠ { data := #[] } := by simpa using h0
      rw [nameB_yes hf (fun h => h0' ((str_empty s).2 h))]; simp; omega
    · rename_i h0; rw [nameB_no0 ((str_empty s).1 (by have h1 : s = { data := #[] } := by simpa using h0
                                                      exact h1))]
theorem isDate_c (n : Int) : RealCall Tryz.prog 92 [.int .i64 n] (.bool (winB n 0 100000)) true := by
  refine realcall_intro Tryz.func92 (by kernel_rfl) rfl (Nat.le_of_ble_eq_true (by kernel_rfl)) ?_
  simp only [Tryz.results92, Tryz.ntmps92]
  repeat' (first | (with_reducible first | refine awp_seq ?_ | refine awp_blockS ?_ | refine awp_blockC ?_ | refine awp_blockR ?_ | refine awp_skip ?_ | refine awp_ret ?_ | refine awp_exit ?_ | refine awp_region ?_ | refine awp_condM ?_ | refine And.intro ?_ ?_ | apply gQ_merge | apply gE_merge | exact EqV_w | exact EqE_w | exact EqV_ptr | exact EqE_ptr | exact EqV_msl | exact EqE_msl | exact EqV_agg | exact EqE_agg | exact EqV_fn | exact EqE_fn | exact EqV_gd | exact EqE_gd | refine gM_splitN ?_ ?_ | refine gM_split ?_ ?_ |  refine condM_splitDN ?_ ?_ | refine condM_splitD ?_ ?_ | refine condM_splitN ?_ ?_ | refine condM_split ?_ ?_ | refine condM_any ?_ ?_ | refine cw (tWithin_c _ _ _) ?_ | intro _) | (simp [*]) | (refine cw_eq (tWithin_c _ _ _) ?_ ?_; (· (simp [*]; done))))
theorem isTime_c (n : Int) : RealCall Tryz.prog 93 [.int .i64 n] (.bool (winB n 0 86399)) true := by
  refine realcall_intro Tryz.func93 (by kernel_rfl) rfl (Nat.le_of_ble_eq_true (by kernel_rfl)) ?_
  simp only [Tryz.results93, Tryz.ntmps93]
  repeat' (first | (with_reducible first | refine awp_seq ?_ | refine awp_blockS ?_ | refine awp_blockC ?_ | refine awp_blockR ?_ | refine awp_skip ?_ | refine awp_ret ?_ | refine awp_exit ?_ | refine awp_region ?_ | refine awp_condM ?_ | refine And.intro ?_ ?_ | apply gQ_merge | apply gE_merge | exact EqV_w | exact EqE_w | exact EqV_ptr | exact EqE_ptr | exact EqV_msl | exact EqE_msl | exact EqV_agg | exact EqE_agg | exact EqV_fn | exact EqE_fn | exact EqV_gd | exact EqE_gd | refine gM_splitN ?_ ?_ | refine gM_split ?_ ?_ |  refine condM_splitDN ?_ ?_ | refine condM_splitD ?_ ?_ | refine condM_splitN ?_ ?_ | refine condM_split ?_ ?_ | refine condM_any ?_ ?_ | refine cw (tWithin_c _ _ _) ?_ | intro _) | (simp [*]) | (refine cw_eq (tWithin_c _ _ _) ?_ ?_; (· (simp [*]; done))))
theorem isAmount_c (n : Int) : RealCall Tryz.prog 110 [.int .i64 n] (.bool (winB n 0 100000)) true := by
  refine realcall_intro Tryz.func110 (by kernel_rfl) rfl (Nat.le_of_ble_eq_true (by kernel_rfl)) ?_
  simp only [Tryz.results110, Tryz.ntmps110]
  repeat' (first | (with_reducible first | refine awp_seq ?_ | refine awp_blockS ?_ | refine awp_blockC ?_ | refine awp_blockR ?_ | refine awp_skip ?_ | refine awp_ret ?_ | refine awp_exit ?_ | refine awp_region ?_ | refine awp_condM ?_ | refine And.intro ?_ ?_ | apply gQ_merge | apply gE_merge | exact EqV_w | exact EqE_w | exact EqV_ptr | exact EqE_ptr | exact EqV_msl | exact EqE_msl | exact EqV_agg | exact EqE_agg | exact EqV_fn | exact EqE_fn | exact EqV_gd | exact EqE_gd | refine gM_splitN ?_ ?_ | refine gM_split ?_ ?_ |  refine condM_splitDN ?_ ?_ | refine condM_splitD ?_ ?_ | refine condM_splitN ?_ ?_ | refine condM_split ?_ ?_ | refine condM_any ?_ ?_ | refine cw (tWithin_c _ _ _) ?_ | intro _) | (simp [*]) | (refine cw_eq (tWithin_c _ _ _) ?_ ?_; (· (simp [*]; done))))
def namedE (s : ByteArray) (l : List ByteArray) : Int := firstS [errUnless (nameB s) 4, errUnless (!Lib.containsS l s) 5]
theorem named_c (s : ByteArray) (hs : s.size < 1000000) (l : List ByteArray) (hl : l.length < 100000) : RealCall Tryz.prog 111 [.str s, .sl l.length (strP l)] (.int .i64 (namedE s l)) true := by
  have c1 := tIsName_c s hs
  have c2 := contT_c l s (by omega)
  unfold namedE
  refine realcall_intro Tryz.func111 (by kernel_rfl) rfl (Nat.le_of_ble_eq_true (by kernel_rfl)) ?_
  simp only [Tryz.results111, Tryz.ntmps111]
  repeat' (first | (with_reducible first | refine awp_seq ?_ | refine awp_blockS ?_ | refine awp_blockC ?_ | refine awp_blockR ?_ | refine awp_skip ?_ | refine awp_ret ?_ | refine awp_exit ?_ | refine awp_region ?_ | refine awp_condM ?_ | refine And.intro ?_ ?_ | apply gQ_merge | apply gE_merge | exact EqV_w | exact EqE_w | exact EqV_ptr | exact EqE_ptr | exact EqV_msl | exact EqE_msl | exact EqV_agg | exact EqE_agg | exact EqV_fn | exact EqE_fn | exact EqV_gd | exact EqE_gd | refine gM_splitN ?_ ?_ | refine gM_split ?_ ?_ |  refine condM_splitDN ?_ ?_ | refine condM_splitD ?_ ?_ | refine condM_splitN ?_ ?_ | refine condM_split ?_ ?_ | refine condM_any ?_ ?_ | refine cw (c1) ?_ | refine cw (c2) ?_ | refine cw (tUnless_c _ _) ?_ | refine cw (tFirst2_c _ _) ?_ | intro _) | (simp [*]) | (refine cw_eq (c1) ?_ ?_; (· (simp [*]; done))) | (refine cw_eq (c2) ?_ ?_; (· (simp [*]; done))) | (refine cw_eq (tUnless_c _ _) ?_ ?_; (· (simp [*]; done))) | (refine cw_eq (tFirst2_c _ _) ?_ ?_; (· (simp [*]; done))))
/-! ### numbers in order -/
theorem rising_ok (l : List Int) (hl : l.length < 1000) (g : FuncId) (caps : List PV) (e : Int) (h : ∀ k, k < l.length → RealCall Tryz.prog g (.int .i64 (nth l k) :: caps) (.bool true) true) (ha : ∀ k, k + 1 < l.length → nth l k < nth l (k + 1)) :
    RealCall Tryz.prog 114 [.sl l.length (ints l), .fn g caps, .int .i64 e] (.int .i64 0) true := by
  refine realcall_intro Tryz.func114 (by kernel_rfl) rfl (Nat.le_of_ble_eq_true (by kernel_rfl)) ?_
  simp only [Tryz.results114, Tryz.ntmps114]
  repeat' (first | (with_reducible first | refine awp_seq ?_ | refine awp_blockS ?_ | refine awp_blockC ?_ | refine awp_blockR ?_ | refine awp_skip ?_ | refine awp_ret ?_ | refine awp_exit ?_ | refine awp_region ?_ | refine awp_condM ?_ | refine And.intro ?_ ?_ | apply gQ_merge | apply gE_merge | exact EqV_w | exact EqE_w | exact EqV_ptr | exact EqE_ptr | exact EqV_msl | exact EqE_msl | exact EqV_agg | exact EqE_agg | exact EqV_fn | exact EqE_fn | exact EqV_gd | exact EqE_gd | refine gM_splitN ?_ ?_ | refine gM_split ?_ ?_ |  refine condM_splitDN ?_ ?_ | refine condM_splitD ?_ ?_ | refine condM_splitN ?_ ?_ | refine condM_split ?_ ?_ | refine condM_any ?_ ?_ | intro _) | (simp [*]))
  refine awp_for3 (fun (k : Nat) => k ≤ l.length) [0, 1, 2, 9, 10] (fun (k : Nat) => [(11, .w false false (.int .i64 k))]) [] (fun (k : Nat) => []) (fun (k : Nat) => l.length - k) (fun (_u : Unit) => True) [] (fun (_u : Unit) => []) [] (fun (_u : Unit) => []) (0) (Nat.zero_le _) (by simp) (by simp) (fun k hk => ?_) (fun _u hf => ?_)
  · by_cases hlt : k < l.length
    · have c1 := h k hlt
      by_cases h0 : k = 0
      · subst h0
        clear ha
        repeat' (first | (with_reducible first | refine awp_seq ?_ | refine awp_blockS ?_ | refine awp_blockC ?_ | refine awp_blockR ?_ | refine awp_skip ?_ | refine awp_ret ?_ | refine awp_exit ?_ | refine awp_region ?_ | refine awp_condM ?_ | refine And.intro ?_ ?_ | apply gQ_merge | apply gE_merge | exact EqV_w | exact EqE_w | exact EqV_ptr | exact EqE_ptr | exact EqV_msl | exact EqE_msl | exact EqV_agg | exact EqE_agg | exact EqV_fn | exact EqE_fn | exact EqV_gd | exact EqE_gd | refine gM_splitN ?_ ?_ | refine gM_split ?_ ?_ |  refine condM_splitDN ?_ ?_ | refine condM_splitD ?_ ?_ | refine condM_splitN ?_ ?_ | refine condM_split ?_ ?_ | refine condM_any ?_ ?_ | refine cw (c1) ?_ | intro _) | (simp [*, hlt]) | (refine cw_eq (c1) ?_ ?_; (· (simp [*]; done))))
        all_goals try first | exact inI64 (by omega) (by omega) | omega
        all_goals (refine loopK_normal _ _ _ _ _ 1 _ ?_ (by first | omega | (dsimp only; omega) | (simp; omega)) ?_; (· omega); (refine le_gen [] ?_ ?_ <;> first | trivial | (simp [*]; done)))
      · obtain ⟨j, rfl⟩ : ∃ j, k = j + 1 := ⟨k - 1, by omega⟩
        have h1 := ha j hlt
        have h2 : ¬ nth l (j + 1) ≤ nth l j := by omega
        have hj : j < l.length := by omega
        have hjI : ((j : Int) + 1 - 1) = (j : Int) := by omega
        have h3 : (0 : Int) < (j : Int) + 1 := by omega
        clear ha h
        repeat' (first | (with_reducible first | refine awp_seq ?_ | refine awp_blockS ?_ | refine awp_blockC ?_ | refine awp_blockR ?_ | refine awp_skip ?_ | refine awp_ret ?_ | refine awp_exit ?_ | refine awp_region ?_ | refine awp_condM ?_ | refine And.intro ?_ ?_ | apply gQ_merge | apply gE_merge | exact EqV_w | exact EqE_w | exact EqV_ptr | exact EqE_ptr | exact EqV_msl | exact EqE_msl | exact EqV_agg | exact EqE_agg | exact EqV_fn | exact EqE_fn | exact EqV_gd | exact EqE_gd | refine gM_splitN ?_ ?_ | refine gM_split ?_ ?_ |  refine condM_splitDN ?_ ?_ | refine condM_splitD ?_ ?_ | refine condM_splitN ?_ ?_ | refine condM_split ?_ ?_ | refine condM_any ?_ ?_ | refine cw (c1) ?_ | intro _) | (simp [*, hlt, h2, hj, hjI, h3]) | (refine cw_eq (c1) ?_ ?_; (· (simp [*]; done))))
        all_goals try first | exact inI64 (by omega) (by omega) | omega
        all_goals (refine loopK_normal _ _ _ _ _ (j + 1 + 1) _ ?_ (by first | omega | (dsimp only; omega) | (simp; omega)) ?_; (· omega); (refine le_gen [] ?_ ?_ <;> first | trivial | (simp [*]; done)))
    · have hke : k = l.length := by omega
      subst hke
      repeat' (first | (with_reducible first | refine awp_seq ?_ | refine awp_blockS ?_ | refine awp_blockC ?_ | refine awp_blockR ?_ | refine awp_skip ?_ | refine awp_ret ?_ | refine awp_exit ?_ | refine awp_region ?_ | refine awp_condM ?_ | refine And.intro ?_ ?_ | apply gQ_merge | apply gE_merge | exact EqV_w | exact EqE_w | exact EqV_ptr | exact EqE_ptr | exact EqV_msl | exact EqE_msl | exact EqV_agg | exact EqE_agg | exact EqV_fn | exact EqE_fn | exact EqV_gd | exact EqE_gd | refine gM_splitN ?_ ?_ | refine gM_split ?_ ?_ |  refine condM_splitDN ?_ ?_ | refine condM_splitD ?_ ?_ | refine condM_splitN ?_ ?_ | refine condM_split ?_ ?_ | refine condM_any ?_ ?_ | intro _) | (simp [*]))
      all_goals (refine finW_intro () ?_ ?_; (· trivial); (refine le_gen [] ?_ ?_ <;> first | trivial | (simp [*]; done)))
  · repeat' (first | (with_reducible first | refine awp_seq ?_ | refine awp_blockS ?_ | refine awp_blockC ?_ | refine awp_blockR ?_ | refine awp_skip ?_ | refine awp_ret ?_ | refine awp_exit ?_ | refine awp_region ?_ | refine awp_condM ?_ | refine And.intro ?_ ?_ | apply gQ_merge | apply gE_merge | exact EqV_w | exact EqE_w | exact EqV_ptr | exact EqE_ptr | exact EqV_msl | exact EqE_msl | exact EqV_agg | exact EqE_agg | exact EqV_fn | exact EqE_fn | exact EqV_gd | exact EqE_gd | refine gM_splitN ?_ ?_ | refine gM_split ?_ ?_ |  refine condM_splitDN ?_ ?_ | refine condM_splitD ?_ ?_ | refine condM_splitN ?_ ?_ | refine condM_split ?_ ?_ | refine condM_any ?_ ?_ | intro _) | (simp [*]))
/-- where a number stands -/
theorem indexI_c (l : List Int) (hl : l.length < 100000) (x : Int) : RealCall Tryz.prog 136 [.sl l.length (ints l), .int .i64 x] (.int .i64 (idxOf (fun y => decide (x = y)) l)) true := by
  generalize hR : idxOf (fun y => decide (x = y)) l = R
  have kR : Keep (idxF (fun y => decide (x = y)) l 0 = R) := keep hR
  clear hR
  refine realcall_intro Tryz.func136 (by kernel_rfl) rfl (Nat.le_of_ble_eq_true (by kernel_rfl)) ?_
  simp only [Tryz.results136, Tryz.ntmps136]
  repeat' (first | (with_reducible first | refine awp_seq ?_ | refine awp_blockS ?_ | refine awp_blockC ?_ | refine awp_blockR ?_ | refine awp_skip ?_ | refine awp_ret ?_ | refine awp_exit ?_ | refine awp_region ?_ | refine awp_condM ?_ | refine And.intro ?_ ?_ | apply gQ_merge | apply gE_merge | exact EqV_w | exact EqE_w | exact EqV_ptr | exact EqE_ptr | exact EqV_msl | exact EqE_msl | exact EqV_agg | exact EqE_agg | exact EqV_fn | exact EqE_fn | exact EqV_gd | exact EqE_gd | refine gM_splitN ?_ ?_ | refine gM_split ?_ ?_ |  refine condM_splitDN ?_ ?_ | refine condM_splitD ?_ ?_ | refine condM_splitN ?_ ?_ | refine condM_split ?_ ?_ | refine condM_any ?_ ?_ | intro _) | (simp [*]))
  refine awp_for3 (fun (k : Nat) => k ≤ l.length ∧ Keep (idxF (fun y => decide (x = y)) (l.drop k) k = R)) [0, 1, 7] (fun (k : Nat) => [(8, .w false false (.int .i64 k))]) [] (fun (k : Nat) => []) (fun (k : Nat) => l.length - k) (fun (_u : Unit) => R = -1) [] (fun (_u : Unit) => []) [] (fun (_u : Unit) => []) (0) ⟨Nat.zero_le _, kR⟩ (by simp) (by simp) (fun k hk => ?_) (fun _u hf => ?_)
  · obtain ⟨hk, hj⟩ := hk
    by_cases hlt : k < l.length
    · have hj' := (show _ = R from hj)
      rw [drop_nth l k hlt] at hj'
      unfold idxF at hj'
      by_cases he : x = nth l k
      · rw [if_pos (by simp [he])] at hj'
        have kj := keep hj'
        clear hj hj' kR
        subst he
        repeat' (first | (with_reducible first | refine awp_seq ?_ | refine awp_blockS ?_ | refine awp_blockC ?_ | refine awp_blockR ?_ | refine awp_skip ?_ | refine awp_ret ?_ | refine awp_exit ?_ | refine awp_region ?_ | refine awp_condM ?_ | refine And.intro ?_ ?_ | apply gQ_merge | apply gE_merge | exact EqV_w | exact EqE_w | exact EqV_ptr | exact EqE_ptr | exact EqV_msl | exact EqE_msl | exact EqV_agg | exact EqE_agg | exact EqV_fn | exact EqE_fn | exact EqV_gd | exact EqE_gd | refine gM_splitN ?_ ?_ | refine gM_split ?_ ?_ |  refine condM_splitDN ?_ ?_ | refine condM_splitD ?_ ?_ | refine condM_splitN ?_ ?_ | refine condM_split ?_ ?_ | refine condM_any ?_ ?_ | intro _) | (simp [*, hlt]))
        all_goals try first | exact inI64 (by omega) (by omega) | omega | exact kj
      · rw [if_neg (by simpa using he)] at hj'
        have kj : Keep (idxF (fun y => decide (x = y)) (l.drop (k + 1)) (k + 1) = R) := keep hj'
        clear hj hj'
        repeat' (first | (with_reducible first | refine awp_seq ?_ | refine awp_blockS ?_ | refine awp_blockC ?_ | refine awp_blockR ?_ | refine awp_skip ?_ | refine awp_ret ?_ | refine awp_exit ?_ | refine awp_region ?_ | refine awp_condM ?_ | refine And.intro ?_ ?_ | apply gQ_merge | apply gE_merge | exact EqV_w | exact EqE_w | exact EqV_ptr | exact EqE_ptr | exact EqV_msl | exact EqE_msl | exact EqV_agg | exact EqE_agg | exact EqV_fn | exact EqE_fn | exact EqV_gd | exact EqE_gd | refine gM_splitN ?_ ?_ | refine gM_split ?_ ?_ |  refine condM_splitDN ?_ ?_ | refine condM_splitD ?_ ?_ | refine condM_splitN ?_ ?_ | refine condM_split ?_ ?_ | refine condM_any ?_ ?_ | intro _) | (simp [*, hlt, he]))
        all_goals try first | exact inI64 (by omega) (by omega) | omega
        all_goals (refine loopK_normal _ _ _ _ _ (k + 1) _ ?_ (by first | omega | (dsimp only; omega) | (simp; omega)) ?_; (· exact ⟨by omega, kj⟩); (refine le_gen [] ?_ ?_ <;> first | trivial | (simp [*]; done)))
    · have hke : k = l.length := by omega
      subst hke
      have hj' := (show _ = R from hj)
      rw [List.drop_length] at hj'
      have kj := keep hj'
      clear hj hj'
      repeat' (first | (with_reducible first | refine awp_seq ?_ | refine awp_blockS ?_ | refine awp_blockC ?_ | refine awp_blockR ?_ | refine awp_skip ?_ | refine awp_ret ?_ | refine awp_exit ?_ | refine awp_region ?_ | refine awp_condM ?_ | refine And.intro ?_ ?_ | apply gQ_merge | apply gE_merge | exact EqV_w | exact EqE_w | exact EqV_ptr | exact EqE_ptr | exact EqV_msl | exact EqE_msl | exact EqV_agg | exact EqE_agg | exact EqV_fn | exact EqE_fn | exact EqV_gd | exact EqE_gd | refine gM_splitN ?_ ?_ | refine gM_split ?_ ?_ |  refine condM_splitDN ?_ ?_ | refine condM_splitD ?_ ?_ | refine condM_splitN ?_ ?_ | refine condM_split ?_ ?_ | refine condM_any ?_ ?_ | intro _) | (simp [*]))
      all_goals (refine finW_intro () ?_ ?_; (· exact (show _ = R from kj).symm); (refine le_gen [] ?_ ?_ <;> first | trivial | (simp [*]; done)))
  · subst hf
    repeat' (first | (with_reducible first | refine awp_seq ?_ | refine awp_blockS ?_ | refine awp_blockC ?_ | refine awp_blockR ?_ | refine awp_skip ?_ | refine awp_ret ?_ | refine awp_exit ?_ | refine awp_region ?_ | refine awp_condM ?_ | refine And.intro ?_ ?_ | apply gQ_merge | apply gE_merge | exact EqV_w | exact EqE_w | exact EqV_ptr | exact EqE_ptr | exact EqV_msl | exact EqE_msl | exact EqV_agg | exact EqE_agg | exact EqV_fn | exact EqE_fn | exact EqV_gd | exact EqE_gd | refine gM_splitN ?_ ?_ | refine gM_split ?_ ?_ |  refine condM_splitDN ?_ ?_ | refine condM_splitD ?_ ?_ | refine condM_splitN ?_ ?_ | refine condM_split ?_ ?_ | refine condM_any ?_ ?_ | intro _) | (simp [*]))
theorem containsI_c (l : List Int) (hl : l.length < 100000) (x : Int) : RealCall Tryz.prog 133 [.sl l.length (ints l), .int .i64 x] (.bool (l.any fun y => decide (x = y))) true := by
  have c1 := indexI_c l hl x
  have h := idxOf_any (fun y => decide (x = y)) l
  generalize idxOf (fun y => decide (x = y)) l = i at *
  rw [← h]
  clear h
  refine realcall_intro Tryz.func133 (by kernel_rfl) rfl (Nat.le_of_ble_eq_true (by kernel_rfl)) ?_
  simp only [Tryz.results133, Tryz.ntmps133]
  repeat' (first | (with_reducible first | refine awp_seq ?_ | refine awp_blockS ?_ | refine awp_blockC ?_ | refine awp_blockR ?_ | refine awp_skip ?_ | refine awp_ret ?_ | refine awp_exit ?_ | refine awp_region ?_ | refine awp_condM ?_ | refine And.intro ?_ ?_ | apply gQ_merge | apply gE_merge | exact EqV_w | exact EqE_w | exact EqV_ptr | exact EqE_ptr | exact EqV_msl | exact EqE_msl | exact EqV_agg | exact EqE_agg | exact EqV_fn | exact EqE_fn | exact EqV_gd | exact EqE_gd | refine gM_splitN ?_ ?_ | refine gM_split ?_ ?_ |  refine condM_splitDN ?_ ?_ | refine condM_splitD ?_ ?_ | refine condM_splitN ?_ ?_ | refine condM_split ?_ ?_ | refine condM_any ?_ ?_ | refine cw (c1) ?_ | intro _) | (simp [*]) | (refine cw_eq (c1) ?_ ?_; (· (simp [*]; done))))
end Go.Proofs.YtlcimflkjfbaoaaGreat
namespace Go.Proofs.YtlcimflkjfbaoaaGreat
open Go Go.Fi
set_option maxRecDepth 20000

/-! ### the tariff of the examples -/
def cRuleD : List PV := [.str ⟨#[100, 97, 121]⟩, .int .i64 0, .int .i64 100000, .sl 2 [.int .i64 0, .int .i64 1], .sl 8 [.int .i64 0, .int .i64 1, .int .i64 2, .int .i64 3, .int .i64 4, .int .i64 5, .int .i64 6, .int .i64 7], .int .i64 21600, .int .i64 79200, .int .i64 350, .int .i64 5, .int .i64 8]
def cRuleN : List PV := [.str ⟨#[110, 105, 103, 104, 116]⟩, .int .i64 0, .int .i64 100000, .sl 2 [.int .i64 0, .int .i64 1], .sl 8 [.int .i64 0, .int .i64 1, .int .i64 2, .int .i64 3, .int .i64 4, .int .i64 5, .int .i64 6, .int .i64 7], .int .i64 79200, .int .i64 21600, .int .i64 450, .int .i64 6, .int .i64 8]
def cCity : List PV := [.str ⟨#[99, 105, 116, 121]⟩, .int .i64 1000, .int .i64 10, .sl 2 [.str ⟨#[116, 111, 119, 110]⟩, .str ⟨#[112, 111, 114, 116]⟩], .sl 1 [.int .i64 7],
  .sl 2 [.str ⟨#[100, 97, 121]⟩, .int .i64 0, .int .i64 100000, .sl 2 [.int .i64 0, .int .i64 1], .sl 8 [.int .i64 0, .int .i64 1, .int .i64 2, .int .i64 3, .int .i64 4, .int .i64 5, .int .i64 6, .int .i64 7], .int .i64 21600, .int .i64 79200, .int .i64 350, .int .i64 5, .int .i64 8,
    .str ⟨#[110, 105, 103, 104, 116]⟩, .int .i64 0, .int .i64 100000, .sl 2 [.int .i64 0, .int .i64 1], .sl 8 [.int .i64 0, .int .i64 1, .int .i64 2, .int .i64 3, .int .i64 4, .int .i64 5, .int .i64 6, .int .i64 7], .int .i64 79200, .int .i64 21600, .int .i64 450, .int .i64 6, .int .i64 8],
  .sl 1 [.str ⟨#[98, 97, 103]⟩, .int .i64 100], .sl 1 [.int .i64 0, .int .i64 1, .int .i64 4000]]
theorem city_c : RealCall Tryz.prog 6 [] (.agg cCity) true := by
  unfold cCity
  refine realcall_intro Tryz.func6 (by kernel_rfl) rfl (Nat.le_of_ble_eq_true (by kernel_rfl)) ?_
  simp only [Tryz.results6, Tryz.ntmps6]
  repeat' (first | (with_reducible first | refine awp_seq ?_ | refine awp_blockS ?_ | refine awp_blockC ?_ | refine awp_blockR ?_ | refine awp_skip ?_ | refine awp_ret ?_ | refine awp_exit ?_ | refine awp_region ?_ | refine awp_condM ?_ | refine And.intro ?_ ?_ | apply gQ_merge | apply gE_merge | exact EqV_w | exact EqE_w | exact EqV_ptr | exact EqE_ptr | exact EqV_msl | exact EqE_msl | exact EqV_agg | exact EqE_agg | exact EqV_fn | exact EqE_fn | exact EqV_gd | exact EqE_gd | refine gM_splitN ?_ ?_ | refine gM_split ?_ ?_ |  refine condM_splitDN ?_ ?_ | refine condM_splitD ?_ ?_ | refine condM_splitN ?_ ?_ | refine condM_split ?_ ?_ | refine condM_any ?_ ?_ | intro _) | (simp [*]))
theorem hasZone_c (z : Int) : RealCall Tryz.prog 76 [.agg cCity, .int .i64 z] (.bool (winB z 0 1)) true := by
  unfold cCity
  refine realcall_intro Tryz.func76 (by kernel_rfl) rfl (Nat.le_of_ble_eq_true (by kernel_rfl)) ?_
  simp only [Tryz.results76, Tryz.ntmps76]
  repeat' (first | (with_reducible first | refine awp_seq ?_ | refine awp_blockS ?_ | refine awp_blockC ?_ | refine awp_blockR ?_ | refine awp_skip ?_ | refine awp_ret ?_ | refine awp_exit ?_ | refine awp_region ?_ | refine awp_condM ?_ | refine And.intro ?_ ?_ | apply gQ_merge | apply gE_merge | exact EqV_w | exact EqE_w | exact EqV_ptr | exact EqE_ptr | exact EqV_msl | exact EqE_msl | exact EqV_agg | exact EqE_agg | exact EqV_fn | exact EqE_fn | exact EqV_gd | exact EqE_gd | refine gM_splitN ?_ ?_ | refine gM_split ?_ ?_ |  refine condM_splitDN ?_ ?_ | refine condM_splitD ?_ ?_ | refine condM_splitN ?_ ?_ | refine condM_split ?_ ?_ | refine condM_any ?_ ?_ | refine cw (tWithin_c _ _ _) ?_ | intro _) | (simp [*]) | (refine cw_eq (tWithin_c _ _ _) ?_ ?_; (· (simp [*]; done))))
  all_goals exact inI64 (by omega) (by omega)
theorem re1_c (z : Int) : RealCall Tryz.prog 130 [.int .i64 z, .ip cCity 0] (.bool (winB z 0 1)) true := by
  have c1 := hasZone_c z
  unfold cCity at *
  refine realcall_intro Tryz.func130 (by kernel_rfl) rfl (Nat.le_of_ble_eq_true (by kernel_rfl)) ?_
  simp only [Tryz.results130, Tryz.ntmps130]
  repeat' (first | (with_reducible first | refine awp_seq ?_ | refine awp_blockS ?_ | refine awp_blockC ?_ | refine awp_blockR ?_ | refine awp_skip ?_ | refine awp_ret ?_ | refine awp_exit ?_ | refine awp_region ?_ | refine awp_condM ?_ | refine And.intro ?_ ?_ | apply gQ_merge | apply gE_merge | exact EqV_w | exact EqE_w | exact EqV_ptr | exact EqE_ptr | exact EqV_msl | exact EqE_msl | exact EqV_agg | exact EqE_agg | exact EqV_fn | exact EqE_fn | exact EqV_gd | exact EqE_gd | refine gM_splitN ?_ ?_ | refine gM_split ?_ ?_ |  refine condM_splitDN ?_ ?_ | refine condM_splitD ?_ ?_ | refine condM_splitN ?_ ?_ | refine condM_split ?_ ?_ | refine condM_any ?_ ?_ | refine cw (c1) ?_ | intro _) | (simp [*]) | (refine cw_eq (c1) ?_ ?_; (· (simp [*]; done))))
theorem re2_c (z : Int) : RealCall Tryz.prog 131 [.int .i64 z] (.bool (winB z 0 7)) true := by
  refine realcall_intro Tryz.func131 (by kernel_rfl) rfl (Nat.le_of_ble_eq_true (by kernel_rfl)) ?_
  simp only [Tryz.results131, Tryz.ntmps131]
  repeat' (first | (with_reducible first | refine awp_seq ?_ | refine awp_blockS ?_ | refine awp_blockC ?_ | refine awp_blockR ?_ | refine awp_skip ?_ | refine awp_ret ?_ | refine awp_exit ?_ | refine awp_region ?_ | refine awp_condM ?_ | refine And.intro ?_ ?_ | apply gQ_merge | apply gE_merge | exact EqV_w | exact EqE_w | exact EqV_ptr | exact EqE_ptr | exact EqV_msl | exact EqE_msl | exact EqV_agg | exact EqE_agg | exact EqV_fn | exact EqE_fn | exact EqV_gd | exact EqE_gd | refine gM_splitN ?_ ?_ | refine gM_split ?_ ?_ |  refine condM_splitDN ?_ ?_ | refine condM_splitD ?_ ?_ | refine condM_splitN ?_ ?_ | refine condM_split ?_ ?_ | refine condM_any ?_ ?_ | refine cw (tWithin_c _ _ _) ?_ | intro _) | (simp [*]) | (refine cw_eq (tWithin_c _ _ _) ?_ ?_; (· (simp [*]; done))))
theorem riseZ_c (e : Int) : RealCall Tryz.prog 114 [.sl 2 [.int .i64 0, .int .i64 1], .fn 130 [.ip cCity 0], .int .i64 e] (.int .i64 0) true := by
  refine rising_ok [0, 1] (by decide) _ _ e (fun k hk => ?_) (fun k hk => ?_)
  · have := re1_c (nth [0, 1] k)
    have h : winB (nth [0, 1] k) 0 1 = true := by
      match k, hk with
      | 0, _ => rfl
      | 1, _ => rfl
    rw [h] at this; exact this
  · match k, hk with
    | 0, _ => decide
theorem riseD_c (e : Int) : RealCall Tryz.prog 114 [.sl 8 [.int .i64 0, .int .i64 1, .int .i64 2, .int .i64 3, .int .i64 4, .int .i64 5, .int .i64 6, .int .i64 7], .fn 131 [], .int .i64 e] (.int .i64 0) true := by
  refine rising_ok [0, 1, 2, 3, 4, 5, 6, 7] (by decide) _ _ e (fun k hk => ?_) (fun k hk => ?_)
  · have := re2_c (nth [0, 1, 2, 3, 4, 5, 6, 7] k)
    have h : winB (nth [0, 1, 2, 3, 4, 5, 6, 7] k) 0 7 = true := by
      have : ∀ k, k < 8 → winB (nth [0, 1, 2, 3, 4, 5, 6, 7] k) 0 7 = true := by decide
      exact this k hk
    rw [h] at this; exact this
  · have : ∀ k, k < 7 → nth [0, 1, 2, 3, 4, 5, 6, 7] k < (nth [0, 1, 2, 3, 4, 5, 6, 7] (k + 1) : Int) := by decide
    exact this k (by simp at hk; omega)
theorem riseH_c (e : Int) : RealCall Tryz.prog 114 [.sl 1 [.int .i64 7], .fn 92 [], .int .i64 e] (.int .i64 0) true := by
  refine rising_ok [7] (by decide) _ _ e (fun k hk => ?_) (fun k hk => ?_)
  · have := isDate_c (nth [7] k)
    have h : winB (nth [7] k) 0 100000 = true := by
      match k, hk with
      | 0, _ => rfl
    rw [h] at this; exact this
  · simp at hk
set_option maxHeartbeats 4000000 in
theorem ruleErrD_c : RealCall Tryz.prog 118 [.agg cCity, .agg cRuleD] (.int .i64 0) true := by
  have r1 := riseZ_c 6
  have r2 := riseD_c 2
  unfold cCity cRuleD at *
  refine realcall_intro Tryz.func118 (by kernel_rfl) rfl (Nat.le_of_ble_eq_true (by kernel_rfl)) ?_
  simp only [Tryz.results118, Tryz.ntmps118]
  repeat' (first | (with_reducible first | refine awp_seq ?_ | refine awp_blockS ?_ | refine awp_blockC ?_ | refine awp_blockR ?_ | refine awp_skip ?_ | refine awp_ret ?_ | refine awp_exit ?_ | refine awp_region ?_ | refine awp_regionD (id := 3) 41 mixed (by decide +kernel) ?_ | refine awp_condM ?_ | refine And.intro ?_ ?_ | apply gQ_merge | apply gE_merge | exact EqV_w | exact EqE_w | exact EqV_ptr | exact EqE_ptr | exact EqV_msl | exact EqE_msl | exact EqV_agg | exact EqE_agg | exact EqV_fn | exact EqE_fn | exact EqV_gd | exact EqE_gd | refine gM_splitN ?_ ?_ | refine gM_split ?_ ?_ |  refine condM_splitDN ?_ ?_ | refine condM_splitD ?_ ?_ | refine condM_splitN ?_ ?_ | refine condM_split ?_ ?_ | refine condM_any ?_ ?_ | refine cw (isTime_c _) ?_ | refine cw (tWithin_c _ _ _) ?_ | refine cw (isAmount_c _) ?_ | refine cw (isDate_c _) ?_ | refine cw (tUnless_c _ _) ?_ | refine cw (r1) ?_ | refine cw (r2) ?_ | refine cw (tFirst6_c _ _ _ _ _ _) ?_ | intro _) | (simp [*, winB, firstS]) | (refine cw_eq (isTime_c _) ?_ ?_; (· (simp [*]; done))) | (refine cw_eq (tWithin_c _ _ _) ?_ ?_; (· (simp [*]; done))) | (refine cw_eq (isAmount_c _) ?_ ?_; (· (simp [*]; done))) | (refine cw_eq (isDate_c _) ?_ ?_; (· (simp [*]; done))) | (refine cw_eq (tUnless_c _ _) ?_ ?_; (· (simp [*]; done))) | (refine cw_eq (r1) ?_ ?_; (· (simp [*]; done))) | (refine cw_eq (r2) ?_ ?_; (· (simp [*]; done))) | (refine cw_eq (tFirst6_c _ _ _ _ _ _) ?_ ?_; (· (simp [*]; done))))
set_option maxHeartbeats 4000000 in
theorem ruleErrN_c : RealCall Tryz.prog 118 [.agg cCity, .agg cRuleN] (.int .i64 0) true := by
  have r1 := riseZ_c 6
  have r2 := riseD_c 2
  unfold cCity cRuleN at *
  refine realcall_intro Tryz.func118 (by kernel_rfl) rfl (Nat.le_of_ble_eq_true (by kernel_rfl)) ?_
  simp only [Tryz.results118, Tryz.ntmps118]
  repeat' (first | (with_reducible first | refine awp_seq ?_ | refine awp_blockS ?_ | refine awp_blockC ?_ | refine awp_blockR ?_ | refine awp_skip ?_ | refine awp_ret ?_ | refine awp_exit ?_ | refine awp_region ?_ | refine awp_regionD (id := 3) 41 mixed (by decide +kernel) ?_ | refine awp_condM ?_ | refine And.intro ?_ ?_ | apply gQ_merge | apply gE_merge | exact EqV_w | exact EqE_w | exact EqV_ptr | exact EqE_ptr | exact EqV_msl | exact EqE_msl | exact EqV_agg | exact EqE_agg | exact EqV_fn | exact EqE_fn | exact EqV_gd | exact EqE_gd | refine gM_splitN ?_ ?_ | refine gM_split ?_ ?_ |  refine condM_splitDN ?_ ?_ | refine condM_splitD ?_ ?_ | refine condM_splitN ?_ ?_ | refine condM_split ?_ ?_ | refine condM_any ?_ ?_ | refine cw (isTime_c _) ?_ | refine cw (tWithin_c _ _ _) ?_ | refine cw (isAmount_c _) ?_ | refine cw (isDate_c _) ?_ | refine cw (tUnless_c _ _) ?_ | refine cw (r1) ?_ | refine cw (r2) ?_ | refine cw (tFirst6_c _ _ _ _ _ _) ?_ | intro _) | (simp [*, winB, firstS]) | (refine cw_eq (isTime_c _) ?_ ?_; (· (simp [*]; done))) | (refine cw_eq (tWithin_c _ _ _) ?_ ?_; (· (simp [*]; done))) | (refine cw_eq (isAmount_c _) ?_ ?_; (· (simp [*]; done))) | (refine cw_eq (isDate_c _) ?_ ?_; (· (simp [*]; done))) | (refine cw_eq (tUnless_c _ _) ?_ ?_; (· (simp [*]; done))) | (refine cw_eq (r1) ?_ ?_; (· (simp [*]; done))) | (refine cw_eq (r2) ?_ ?_; (· (simp [*]; done))) | (refine cw_eq (tFirst6_c _ _ _ _ _ _) ?_ ?_; (· (simp [*]; done))))
theorem momentErr_c (d t : Int) : RealCall Tryz.prog 73 [.agg [.int .i64 d, .int .i64 t]] (.int .i64 (errUnless (winB d 0 100000 && winB t 0 86399) 2)) true := by
  refine realcall_intro Tryz.func73 (by kernel_rfl) rfl (Nat.le_of_ble_eq_true (by kernel_rfl)) ?_
  simp only [Tryz.results73, Tryz.ntmps73]
  repeat' (first | (with_reducible first | refine awp_seq ?_ | refine awp_blockS ?_ | refine awp_blockC ?_ | refine awp_blockR ?_ | refine awp_skip ?_ | refine awp_ret ?_ | refine awp_exit ?_ | refine awp_region ?_ | refine awp_condM ?_ | refine And.intro ?_ ?_ | apply gQ_merge | apply gE_merge | exact EqV_w | exact EqE_w | exact EqV_ptr | exact EqE_ptr | exact EqV_msl | exact EqE_msl | exact EqV_agg | exact EqE_agg | exact EqV_fn | exact EqE_fn | exact EqV_gd | exact EqE_gd | refine gM_splitN ?_ ?_ | refine gM_split ?_ ?_ |  refine condM_splitDN ?_ ?_ | refine condM_splitD ?_ ?_ | refine condM_splitN ?_ ?_ | refine condM_split ?_ ?_ | refine condM_any ?_ ?_ | refine cw (isDate_c _) ?_ | refine cw (isTime_c _) ?_ | refine cw (tUnless_c _ _) ?_ | intro _) | (simp [*]) | (refine cw_eq (isDate_c _) ?_ ?_; (· (simp [*]; done))) | (refine cw_eq (isTime_c _) ?_ ?_; (· (simp [*]; done))) | (refine cw_eq (tUnless_c _ _) ?_ ?_; (· (simp [*]; done))))
theorem later_c (d t s : Int) (hd : 0 ≤ d ∧ d ≤ 100000) (ht : 0 ≤ t ∧ t ≤ 86399) (hs : 0 ≤ s ∧ s ≤ 100000) (h : t + s ≤ 86399) : RealCall Tryz.prog 46 [.agg [.int .i64 d, .int .i64 t], .int .i64 s] (.agg [.int .i64 d, .int .i64 (t + s)]) true := by
  have h1 : (t + s).tdiv 86400 = 0 := Int.tdiv_eq_zero_of_lt (by omega) (by omega)
  have h2 : (t + s).tmod 86400 = t + s := Int.tmod_eq_of_lt (by omega) (by omega)
  refine realcall_intro Tryz.func46 (by kernel_rfl) rfl (Nat.le_of_ble_eq_true (by kernel_rfl)) ?_
  simp only [Tryz.results46, Tryz.ntmps46]
  repeat' (first | (with_reducible first | refine awp_seq ?_ | refine awp_blockS ?_ | refine awp_blockC ?_ | refine awp_blockR ?_ | refine awp_skip ?_ | refine awp_ret ?_ | refine awp_exit ?_ | refine awp_region ?_ | refine awp_condM ?_ | refine And.intro ?_ ?_ | apply gQ_merge | apply gE_merge | exact EqV_w | exact EqE_w | exact EqV_ptr | exact EqE_ptr | exact EqV_msl | exact EqE_msl | exact EqV_agg | exact EqE_agg | exact EqV_fn | exact EqE_fn | exact EqV_gd | exact EqE_gd | refine gM_splitN ?_ ?_ | refine gM_split ?_ ?_ |  refine condM_splitDN ?_ ?_ | refine condM_splitD ?_ ?_ | refine condM_splitN ?_ ?_ | refine condM_split ?_ ?_ | refine condM_any ?_ ?_ | intro _) | (simp [*, h1, h2]))
  all_goals try first | exact inI64 (by omega) (by omega) | omega
end Go.Proofs.YtlcimflkjfbaoaaGreat

