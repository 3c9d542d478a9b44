/- Contracts of functions for this claim: lemmas alone. -/
import Derived.Test.YtiialcomflggcaaDoorP120
import Derived.Test.YtiialcomflggcaaDoorLx
set_option linter.unusedSimpArgs false
set_option linter.unusedVariables false
namespace Go.Proofs.YtiialcomflggcaaDoor
open Go Go.Fi
set_option maxRecDepth 20000

/-! ### the program's ParseStops -/
theorem mapSI : mapT Tryd.prog 66 = some (.string, .int .i64 0) := by kernel_rfl
/-- what the map holds after k riders -/
def numM (rs : List Rider) : Nat → List (ByteArray × Int)
  | 0 => []
  | k + 1 => putM (numM rs k) (nth rs k).name (k : Int)
theorem numM_look (rs : List Rider) (x : ByteArray) : ∀ k, lookM (numM rs k) x = (findR rs x k).map fun i => (i : Int)
  | 0 => rfl
  | k + 1 => by
    unfold numM findR
    rw [lookM_put, numM_look rs x k]
    by_cases e : (nth rs k).name = x
    · rw [if_pos e.symm, if_pos e]; rfl
    · rw [if_neg (fun h => e h.symm), if_neg e]
theorem findR_known (rs : List Rider) (x : ByteArray) : ∀ k, k ≤ rs.length → knownB (rs.take k) x = (findR rs x k).isSome
  | 0, _ => by simp [knownB, findR]
  | k + 1, h => by
    have e : rs.take (k + 1) = rs.take k ++ [nth rs k] := by
      rw [List.take_add_one]; simp [nth, List.getD_eq_getElem?_getD, List.getElem?_eq_getElem (by omega : k < rs.length)]
    have ih := findR_known rs x k (by omega)
    unfold knownB at ih ⊢
    unfold findR
    rw [e, List.any_append, ih]
    by_cases e2 : (nth rs k).name = x
    · simp [e2]
    · simp [e2]
theorem badW_c (x : ByteArray) : RealCall Tryd.prog 30 [.str x] (.bool (badW x)) true := by
  by_cases h : x.size < 2
  · have e : badW x = true := by unfold badW; rw [decide_eq_true h]; rfl
    rw [e]
    have hI : (x.size : Int) < 2 := by omega
    refine realcall_intro Tryd.func30 (by kernel_rfl) rfl (Nat.le_of_ble_eq_true (by kernel_rfl)) ?_
    simp only [Tryd.results30, Tryd.ntmps30]
    repeat' (first | (with_reducible first | refine awp_seq ?_ | refine awp_blockS ?_ | refine awp_blockC ?_ | refine awp_blockR ?_ | refine awp_skip ?_ | refine awp_ret ?_ | refine awp_exit ?_ | refine awp_region ?_ | refine awp_condM ?_ | refine And.intro ?_ ?_ | apply gQ_merge | apply gE_merge | exact EqV_w | exact EqE_w | exact EqV_ptr | exact EqE_ptr | exact EqV_msl | exact EqE_msl | exact EqV_agg | exact EqE_agg | exact EqV_fn | exact EqE_fn | exact EqV_gd | exact EqE_gd | refine gM_splitN ?_ ?_ | refine gM_split ?_ ?_ |  refine condM_splitDN ?_ ?_ | refine condM_splitD ?_ ?_ | refine condM_splitN ?_ ?_ | refine condM_split ?_ ?_ | refine condM_any ?_ ?_ | intro _) | (simp [*, hI]))
  · have hI : ¬ (x.size : Int) < 2 := by omega
    have e : badW x = (!decide (signB x = plus1) && !decide (signB x = minus1)) := by unfold badW; rw [decide_eq_false h]; rfl
    rw [e]
    clear e
    unfold signB
    have h1 : 1 ≤ x.size := by omega
    by_cases h2 : x.extract 0 1 = plus1
    · refine realcall_intro Tryd.func30 (by kernel_rfl) rfl (Nat.le_of_ble_eq_true (by kernel_rfl)) ?_
      simp only [Tryd.results30, Tryd.ntmps30]
      repeat' (first | (with_reducible first | refine awp_seq ?_ | refine awp_blockS ?_ | refine awp_blockC ?_ | refine awp_blockR ?_ | refine awp_skip ?_ | refine awp_ret ?_ | refine awp_exit ?_ | refine awp_region ?_ | refine awp_condM ?_ | refine And.intro ?_ ?_ | apply gQ_merge | apply gE_merge | exact EqV_w | exact EqE_w | exact EqV_ptr | exact EqE_ptr | exact EqV_msl | exact EqE_msl | exact EqV_agg | exact EqE_agg | exact EqV_fn | exact EqE_fn | exact EqV_gd | exact EqE_gd | refine gM_splitN ?_ ?_ | refine gM_split ?_ ?_ |  refine condM_splitDN ?_ ?_ | refine condM_splitD ?_ ?_ | refine condM_splitN ?_ ?_ | refine condM_split ?_ ?_ | refine condM_any ?_ ?_ | intro _) | (simp [*, hI, h2]))
      all_goals omega
    · by_cases h3 : x.extract 0 1 = minus1
      · refine realcall_intro Tryd.func30 (by kernel_rfl) rfl (Nat.le_of_ble_eq_true (by kernel_rfl)) ?_
        simp only [Tryd.results30, Tryd.ntmps30]
        repeat' (first | (with_reducible first | refine awp_seq ?_ | refine awp_blockS ?_ | refine awp_blockC ?_ | refine awp_blockR ?_ | refine awp_skip ?_ | refine awp_ret ?_ | refine awp_exit ?_ | refine awp_region ?_ | refine awp_condM ?_ | refine And.intro ?_ ?_ | apply gQ_merge | apply gE_merge | exact EqV_w | exact EqE_w | exact EqV_ptr | exact EqE_ptr | exact EqV_msl | exact EqE_msl | exact EqV_agg | exact EqE_agg | exact EqV_fn | exact EqE_fn | exact EqV_gd | exact EqE_gd | refine gM_splitN ?_ ?_ | refine gM_split ?_ ?_ |  refine condM_splitDN ?_ ?_ | refine condM_splitD ?_ ?_ | refine condM_splitN ?_ ?_ | refine condM_split ?_ ?_ | refine condM_any ?_ ?_ | intro _) | (simp [*, hI, h2, h3]))
        all_goals omega
      · refine realcall_intro Tryd.func30 (by kernel_rfl) rfl (Nat.le_of_ble_eq_true (by kernel_rfl)) ?_
        simp only [Tryd.results30, Tryd.ntmps30]
        repeat' (first | (with_reducible first | refine awp_seq ?_ | refine awp_blockS ?_ | refine awp_blockC ?_ | refine awp_blockR ?_ | refine awp_skip ?_ | refine awp_ret ?_ | refine awp_exit ?_ | refine awp_region ?_ | refine awp_condM ?_ | refine And.intro ?_ ?_ | apply gQ_merge | apply gE_merge | exact EqV_w | exact EqE_w | exact EqV_ptr | exact EqE_ptr | exact EqV_msl | exact EqE_msl | exact EqV_agg | exact EqE_agg | exact EqV_fn | exact EqE_fn | exact EqV_gd | exact EqE_gd | refine gM_splitN ?_ ?_ | refine gM_split ?_ ?_ |  refine condM_splitDN ?_ ?_ | refine condM_splitD ?_ ?_ | refine condM_splitN ?_ ?_ | refine condM_split ?_ ?_ | refine condM_any ?_ ?_ | intro _) | (simp [*, hI, h2, h3]))
        all_goals omega
end Go.Proofs.YtiialcomflggcaaDoor
namespace Go.Proofs.YtiialcomflggcaaDoor
open Go Go.Fi
set_option maxRecDepth 20000

@[simp] theorem strP_get (l : List ByteArray) (k : Nat) (h : k < l.length) : nthP (strP l) k = .str (nth l k) := nthP_map _ l k h
theorem indexText_c (l : List ByteArray) (hl : l.length < 100000) (g : FuncId) (caps : List PV) (p : ByteArray → Bool) (h : ∀ x, RealCall Tryd.prog g (.str x :: caps) (.bool (p x)) true) :
    RealCall Tryd.prog 54 [.sl l.length (strP l), .fn g caps] (.int .i64 (idxOf p l)) true := by
  generalize hR : idxOf p l = R
  have kR : Keep (idxF p l 0 = R) := keep hR
  clear hR
  refine realcall_intro Tryd.func54 (by kernel_rfl) rfl (Nat.le_of_ble_eq_true (by kernel_rfl)) ?_
  simp only [Tryd.results54, Tryd.ntmps54]
  repeat' (first | (with_reducible first | refine awp_seq ?_ | refine awp_blockS ?_ | refine awp_blockC ?_ | refine awp_blockR ?_ | refine awp_skip ?_ | refine awp_ret ?_ | refine awp_exit ?_ | refine awp_region ?_ | refine awp_condM ?_ | refine And.intro ?_ ?_ | apply gQ_merge | apply gE_merge | exact EqV_w | exact EqE_w | exact EqV_ptr | exact EqE_ptr | exact EqV_msl | exact EqE_msl | exact EqV_agg | exact EqE_agg | exact EqV_fn | exact EqE_fn | exact EqV_gd | exact EqE_gd | refine gM_splitN ?_ ?_ | refine gM_split ?_ ?_ |  refine condM_splitDN ?_ ?_ | refine condM_splitD ?_ ?_ | refine condM_splitN ?_ ?_ | refine condM_split ?_ ?_ | refine condM_any ?_ ?_ | intro _) | (simp [*]))
  refine awp_for3 (fun (k : Nat) => k ≤ l.length ∧ idxF p (l.drop k) k = R) [0, 1, 7] (fun (k : Nat) => [(8, .w false false (.int .i64 k))]) [] (fun (k : Nat) => []) (fun (k : Nat) => l.length - k) (fun (_u : Unit) => R = -1) [] (fun (_u : Unit) => []) [] (fun (_u : Unit) => []) (0) ⟨Nat.zero_le _, kR⟩ (by simp) (by simp) (fun k hk => ?_) (fun _u hf => ?_)
  · obtain ⟨hk, hj⟩ := hk
    by_cases hlt : k < l.length
    · have c1 := h (nth l k)
      have hj' := hj
      rw [drop_nth l k hlt] at hj'
      unfold idxF at hj'
      have kj := keep hj'
      clear hj hj' h
      repeat' (first | (with_reducible first | refine awp_seq ?_ | refine awp_blockS ?_ | refine awp_blockC ?_ | refine awp_blockR ?_ | refine awp_skip ?_ | refine awp_ret ?_ | refine awp_exit ?_ | refine awp_region ?_ | refine awp_condM ?_ | refine And.intro ?_ ?_ | apply gQ_merge | apply gE_merge | exact EqV_w | exact EqE_w | exact EqV_ptr | exact EqE_ptr | exact EqV_msl | exact EqE_msl | exact EqV_agg | exact EqE_agg | exact EqV_fn | exact EqE_fn | exact EqV_gd | exact EqE_gd | refine gM_splitN ?_ ?_ | refine gM_split ?_ ?_ |  refine condM_splitDN ?_ ?_ | refine condM_splitD ?_ ?_ | refine condM_splitN ?_ ?_ | refine condM_split ?_ ?_ | refine condM_any ?_ ?_ | refine cw (c1) ?_ | intro _) | (simp [*, hlt]) | (refine cw_eq (c1) ?_ ?_; (· (simp [*]; done))))
      all_goals first
        | exact inI64 (by omega) (by omega)
        | omega
        | (rename_i hp; rw [if_pos hp] at kj; exact kj)
        | (rename_i hp; rw [if_neg (by rw [hp]; decide)] at kj; (refine loopK_normal _ _ _ _ _ (k + 1) _ ?_ (by first | omega | (dsimp only; omega) | (simp; omega)) ?_; (· exact ⟨by omega, kj⟩); (refine le_of ?_ ?_ <;> first | trivial | (simp [*]; done))))
        | skip
    · have hke : k = l.length := by omega
      subst hke
      repeat' (first | (with_reducible first | refine awp_seq ?_ | refine awp_blockS ?_ | refine awp_blockC ?_ | refine awp_blockR ?_ | refine awp_skip ?_ | refine awp_ret ?_ | refine awp_exit ?_ | refine awp_region ?_ | refine awp_condM ?_ | refine And.intro ?_ ?_ | apply gQ_merge | apply gE_merge | exact EqV_w | exact EqE_w | exact EqV_ptr | exact EqE_ptr | exact EqV_msl | exact EqE_msl | exact EqV_agg | exact EqE_agg | exact EqV_fn | exact EqE_fn | exact EqV_gd | exact EqE_gd | refine gM_splitN ?_ ?_ | refine gM_split ?_ ?_ |  refine condM_splitDN ?_ ?_ | refine condM_splitD ?_ ?_ | refine condM_splitN ?_ ?_ | refine condM_split ?_ ?_ | refine condM_any ?_ ?_ | intro _) | (simp [*]))
      all_goals (refine finW_intro () ?_ ?_; (· rw [← hj, List.drop_length]; rfl); (refine le_of ?_ ?_ <;> first | trivial | (simp [*]; done)))
  · subst hf
    repeat' (first | (with_reducible first | refine awp_seq ?_ | refine awp_blockS ?_ | refine awp_blockC ?_ | refine awp_blockR ?_ | refine awp_skip ?_ | refine awp_ret ?_ | refine awp_exit ?_ | refine awp_region ?_ | refine awp_condM ?_ | refine And.intro ?_ ?_ | apply gQ_merge | apply gE_merge | exact EqV_w | exact EqE_w | exact EqV_ptr | exact EqE_ptr | exact EqV_msl | exact EqE_msl | exact EqV_agg | exact EqE_agg | exact EqV_fn | exact EqE_fn | exact EqV_gd | exact EqE_gd | refine gM_splitN ?_ ?_ | refine gM_split ?_ ?_ |  refine condM_splitDN ?_ ?_ | refine condM_splitD ?_ ?_ | refine condM_splitN ?_ ?_ | refine condM_split ?_ ?_ | refine condM_any ?_ ?_ | intro _) | (simp [*]))
theorem badText_c (l : List ByteArray) (hl : l.length < 100000) : RealCall Tryd.prog 29 [.sl l.length (strP l), .fn 30 []] (.bool (l.any badW)) true := by
  have c1 := indexText_c l hl 30 [] badW badW_c
  have h := idxOf_any badW l
  generalize idxOf badW l = i at *
  rw [← h]
  clear h
  refine realcall_intro Tryd.func29 (by kernel_rfl) rfl (Nat.le_of_ble_eq_true (by kernel_rfl)) ?_
  simp only [Tryd.results29, Tryd.ntmps29]
  repeat' (first | (with_reducible first | refine awp_seq ?_ | refine awp_blockS ?_ | refine awp_blockC ?_ | refine awp_blockR ?_ | refine awp_skip ?_ | refine awp_ret ?_ | refine awp_exit ?_ | refine awp_region ?_ | refine awp_condM ?_ | refine And.intro ?_ ?_ | apply gQ_merge | apply gE_merge | exact EqV_w | exact EqE_w | exact EqV_ptr | exact EqE_ptr | exact EqV_msl | exact EqE_msl | exact EqV_agg | exact EqE_agg | exact EqV_fn | exact EqE_fn | exact EqV_gd | exact EqE_gd | refine gM_splitN ?_ ?_ | refine gM_split ?_ ?_ |  refine condM_splitDN ?_ ?_ | refine condM_splitD ?_ ?_ | refine condM_splitN ?_ ?_ | refine condM_split ?_ ?_ | refine condM_any ?_ ?_ | refine cw (c1) ?_ | intro _) | (simp [*]) | (refine cw_eq (c1) ?_ ?_; (· (simp [*]; done))))
end Go.Proofs.YtiialcomflggcaaDoor

