/- Contracts of functions for this claim: lemmas alone. -/
import Derived.Test.YtiialcomflggcaaDoorP124
import Derived.Test.YtiialcomflggcaaDoorP31
set_option linter.unusedSimpArgs false
set_option linter.unusedVariables false
namespace Go.Proofs.YtiialcomflggcaaDoor
open Go Go.Fi
set_option maxRecDepth 20000

/-! ### the document's text of stops -/
theorem sz1 (c : UInt8) : (⟨#[c]⟩ : ByteArray).size = 1 := rfl
theorem sz0 : (⟨#[]⟩ : ByteArray).size = 0 := rfl
theorem joinB_ne (sep x : ByteArray) (r : List ByteArray) (hx : x ≠ ⟨#[]⟩) : joinB (x :: r) sep ≠ ⟨#[]⟩ := by
  intro e
  have e1 := congrArg (fun b : ByteArray => b.data.toList) e
  cases r with
  | nil => rw [joinB_one] at e; exact hx e
  | cons y r =>
    simp only [joinB, Lib.join, List.map_cons] at e1
    have e2 : x.data.toList = [] := by
      rcases List.append_eq_nil_iff.1 e1 with ⟨h1, _⟩
      first | exact h1 | exact (List.append_eq_nil_iff.1 h1).1
    exact hx (ba_ext e2)
theorem wordOf_ne (p : Plan) (s : Stop) : wordOf p s ≠ ⟨#[]⟩ := by
  intro e
  have e1 := congrArg ByteArray.size e
  unfold wordOf at e1
  rw [ByteArray.size_append] at e1
  have e2 : (if s.out = true then (⟨#[45]⟩ : ByteArray) else ⟨#[43]⟩).size = 1 := by split <;> rfl
  rw [e2, show (⟨#[]⟩ : ByteArray).size = 0 from rfl] at e1
  omega
theorem wordsF_ne (p : Plan) : ∀ (l : List Stop) (x : ByteArray), x ∈ wordsF p l → x ≠ ⟨#[]⟩
  | [], x, hx => by cases hx
  | s :: ss, x, hx => by
    unfold wordsF at hx
    split at hx
    · rcases List.mem_cons.1 hx with rfl | hx
      · exact wordOf_ne p s
      · exact wordsF_ne p ss x hx
    · exact wordsF_ne p ss x hx
/-- the text behind k stops -/
def accF (p : Plan) (k : Nat) : ByteArray := joinB (wordsF p (p.stops.take k)) sp1
theorem accF_zero (p : Plan) : accF p 0 = ⟨#[]⟩ := by unfold accF; rw [List.take_zero]; exact joinB_nil _
theorem accF_end (p : Plan) : accF p p.stops.length = formatS p := by unfold accF formatS; rw [List.take_length]
theorem accF_skip {p : Plan} {k : Nat} (h : k < p.stops.length) (hw : winB (nth p.stops k).rider 0 ((p.riders.length : Int) - 1) = false) : accF p (k + 1) = accF p k := by
  unfold accF
  rw [take_succ_nth p.stops k h, wordsF_snoc, if_neg (by rw [hw]; decide), List.append_nil]
theorem accF_add {p : Plan} {k : Nat} (h : k < p.stops.length) (hw : winB (nth p.stops k).rider 0 ((p.riders.length : Int) - 1) = true) :
    accF p (k + 1) = (if accF p k = ⟨#[]⟩ then ⟨#[]⟩ else accF p k ++ sp1) ++ wordOf p (nth p.stops k) := by
  unfold accF
  rw [take_succ_nth p.stops k h, wordsF_snoc, if_pos hw]
  cases hl : wordsF p (p.stops.take k) with
  | nil => rw [joinB_nil, if_pos rfl, List.nil_append, joinB_one]; apply ByteArray.ext; simp
  | cons x r =>
    have hx := wordsF_ne p (p.stops.take k) x (by rw [hl]; simp)
    rw [if_neg (joinB_ne _ _ _ hx), joinB_snoc _ _ _ (by simp)]
theorem accF_bd {p : Plan} (hp : PlanIn p) (k : Nat) : (accF p k).size ≤ 20000000000 := by
  have h1 := joinB_size sp1 1000001 (wordsF p (p.stops.take k)) (wordsF_size hp.names _)
  have h2 := wordsF_len p (p.stops.take k)
  have h3 : (p.stops.take k).length ≤ p.stops.length := by rw [List.length_take]; omega
  have h4 := hp.stops
  have h5 : (wordsF p (p.stops.take k)).length * (1000001 + sp1.size) ≤ 10000 * (1000001 + sp1.size) := Nat.mul_le_mul (by omega) (Nat.le_refl _)
  have h6 : sp1.size = 1 := rfl
  unfold accF
  rw [h6] at h5 h1
  omega
set_option maxHeartbeats 4000000 in
theorem rFormat_c (p : Plan) (hp : PlanIn p) : RealCall Tryd.prog 10 [aPlan p] (.str (formatS p)) true := by
  have hrl := hp.riders
  have hsl := hp.stops
  have hnm := hp.names
  have hbd := accF_bd hp
  have h0 := accF_zero p
  have he := accF_end p
  rw [← he]
  have kb := keep hbd
  clear hbd hp he
  unfold aPlan cPlan
  refine realcall_intro Tryd.func10 (by kernel_rfl) rfl (Nat.le_of_ble_eq_true (by kernel_rfl)) ?_
  simp only [Tryd.results10, Tryd.ntmps10]
  repeat' (first | (with_reducible first | refine awp_seq ?_ | refine awp_blockS ?_ | refine awp_blockC ?_ | refine awp_blockR ?_ | refine awp_skip ?_ | refine awp_ret ?_ | refine awp_exit ?_ | refine awp_region ?_ | refine awp_condM ?_ | refine And.intro ?_ ?_ | apply gQ_merge | apply gE_merge | exact EqV_w | exact EqE_w | exact EqV_ptr | exact EqE_ptr | exact EqV_msl | exact EqE_msl | exact EqV_agg | exact EqE_agg | exact EqV_fn | exact EqE_fn | exact EqV_gd | exact EqE_gd | refine gM_splitN ?_ ?_ | refine gM_split ?_ ?_ |  refine condM_splitDN ?_ ?_ | refine condM_splitD ?_ ?_ | refine condM_splitN ?_ ?_ | refine condM_split ?_ ?_ | refine condM_any ?_ ?_ | intro _) | (simp [*]))
  refine awp_for4 1 (fun (k : Nat) => k ≤ p.stops.length) [1] (fun (k : Nat) => [(4, .w false false (.int .i64 k)), (3, .w false false (.str (accF p k)))]) [0] (fun (k : Nat) => []) (fun (k : Nat) => p.stops.length - k) (fun (_u : Unit) => True) [] (fun (_u : Unit) => [(3, .w false false (.str (accF p p.stops.length)))]) [] (fun (_u : Unit) => []) (0) (Nat.zero_le _) (le_gen [] (by simp [h0]) (by simp [h0])) (fun k hk => ?_) (fun _u hf => ?_)
  · clear h0
    by_cases hlt : k < p.stops.length
    · have hbk := (show ∀ k, (accF p k).size ≤ 20000000000 from kb) k
      have h2 := accF_skip hlt
      have h3 := accF_add hlt
      clear kb
      generalize hst : nth p.stops k = s at *
      obtain ⟨sr, so⟩ := s
      dsimp only at h2 h3
      generalize accF p k = T at *
      cases hw : winB sr 0 ((p.riders.length : Int) - 1) with
      | false =>
        have ks := keep (h2 hw)
        clear h2 h3 hnm
        repeat' (first | (with_reducible first | refine awp_seq ?_ | refine awp_blockS ?_ | refine awp_blockC ?_ | refine awp_blockR ?_ | refine awp_skip ?_ | refine awp_ret ?_ | refine awp_exit ?_ | refine awp_region ?_ | refine awp_condM ?_ | refine And.intro ?_ ?_ | apply gQ_merge | apply gE_merge | exact EqV_w | exact EqE_w | exact EqV_ptr | exact EqE_ptr | exact EqV_msl | exact EqE_msl | exact EqV_agg | exact EqE_agg | exact EqV_fn | exact EqE_fn | exact EqV_gd | exact EqE_gd | refine gM_splitN ?_ ?_ | refine gM_split ?_ ?_ |  refine condM_splitDN ?_ ?_ | refine condM_splitD ?_ ?_ | refine condM_splitN ?_ ?_ | refine condM_split ?_ ?_ | refine condM_any ?_ ?_ | refine cw (rWithin_c _ _ _) ?_ | intro _) | (simp [*, hlt, cStop]) | (refine cw_eq (rWithin_c _ _ _) ?_ ?_; (· (simp [*]; done))))
        all_goals try first | exact inI64 (by omega) (by omega) | omega
        all_goals (refine loopK_normal _ _ _ _ _ (k + 1) _ ?_ (by first | omega | (dsimp only; omega) | (simp; omega)) ?_; (· omega); (refine le_gen [] ?_ ?_ <;> first | trivial | (simp [*, show accF p (k + 1) = _ from ks]; done)))
      | true =>
        have h4 := h3 hw
        clear h2 h3
        obtain ⟨j, rfl, hj⟩ := winB_nat hw
        have hz := hnm j hj
        clear hnm
        have e : wordOf p ⟨(j : Int), so⟩ = (if so = true then ⟨#[45]⟩ else ⟨#[43]⟩) ++ (nth p.riders j).name := rfl
        rw [e] at h4
        clear e
        by_cases hT : T = ⟨#[]⟩
        · rw [if_pos hT] at h4
          subst hT
          cases so with
          | true =>
            rw [if_pos rfl] at h4
            have ks := keep (h4.trans (by apply ByteArray.ext; simp : _ = (⟨#[]⟩ ++ ⟨#[45]⟩ ++ (nth p.riders j).name : ByteArray)))
            clear h4
            repeat' (first | (with_reducible first | refine awp_seq ?_ | refine awp_blockS ?_ | refine awp_blockC ?_ | refine awp_blockR ?_ | refine awp_skip ?_ | refine awp_ret ?_ | refine awp_exit ?_ | refine awp_region ?_ | refine awp_condM ?_ | refine And.intro ?_ ?_ | apply gQ_merge | apply gE_merge | exact EqV_w | exact EqE_w | exact EqV_ptr | exact EqE_ptr | exact EqV_msl | exact EqE_msl | exact EqV_agg | exact EqE_agg | exact EqV_fn | exact EqE_fn | exact EqV_gd | exact EqE_gd | refine gM_splitN ?_ ?_ | refine gM_split ?_ ?_ |  refine condM_splitDN ?_ ?_ | refine condM_splitD ?_ ?_ | refine condM_splitN ?_ ?_ | refine condM_split ?_ ?_ | refine condM_any ?_ ?_ | refine cw (rWithin_c _ _ _) ?_ | intro _) | (simp [*, hlt, cStop]) | (refine cw_eq (rWithin_c _ _ _) ?_ ?_; (· (simp [*]; done))))
            all_goals try first | exact inI64 (by omega) (by omega) | omega | (simp only [sz0, sz1]; omega)
            all_goals (refine loopK_normal _ _ _ _ _ (k + 1) _ ?_ (by first | omega | (dsimp only; omega) | (simp; omega)) ?_; (· omega); (refine le_gen [] ?_ ?_ <;> first | trivial | (simp [*, show accF p (k + 1) = _ from ks]; done)))
          | false =>
            rw [if_neg (by decide)] at h4
            have ks := keep (h4.trans (by apply ByteArray.ext; simp : _ = (⟨#[]⟩ ++ ⟨#[43]⟩ ++ (nth p.riders j).name : ByteArray)))
            clear h4
            repeat' (first | (with_reducible first | refine awp_seq ?_ | refine awp_blockS ?_ | refine awp_blockC ?_ | refine awp_blockR ?_ | refine awp_skip ?_ | refine awp_ret ?_ | refine awp_exit ?_ | refine awp_region ?_ | refine awp_condM ?_ | refine And.intro ?_ ?_ | apply gQ_merge | apply gE_merge | exact EqV_w | exact EqE_w | exact EqV_ptr | exact EqE_ptr | exact EqV_msl | exact EqE_msl | exact EqV_agg | exact EqE_agg | exact EqV_fn | exact EqE_fn | exact EqV_gd | exact EqE_gd | refine gM_splitN ?_ ?_ | refine gM_split ?_ ?_ |  refine condM_splitDN ?_ ?_ | refine condM_splitD ?_ ?_ | refine condM_splitN ?_ ?_ | refine condM_split ?_ ?_ | refine condM_any ?_ ?_ | refine cw (rWithin_c _ _ _) ?_ | intro _) | (simp [*, hlt, cStop]) | (refine cw_eq (rWithin_c _ _ _) ?_ ?_; (· (simp [*]; done))))
            all_goals try first | exact inI64 (by omega) (by omega) | omega | (simp only [sz0, sz1]; omega)
            all_goals (refine loopK_normal _ _ _ _ _ (k + 1) _ ?_ (by first | omega | (dsimp only; omega) | (simp; omega)) ?_; (· omega); (refine le_gen [] ?_ ?_ <;> first | trivial | (simp [*, show accF p (k + 1) = _ from ks]; done)))
        · rw [if_neg hT] at h4
          cases so with
          | true =>
            rw [if_pos rfl] at h4
            have ks := keep (h4.trans (by apply ByteArray.ext; simp : _ = (T ++ sp1 ++ ⟨#[45]⟩ ++ (nth p.riders j).name : ByteArray)))
            clear h4
            repeat' (first | (with_reducible first | refine awp_seq ?_ | refine awp_blockS ?_ | refine awp_blockC ?_ | refine awp_blockR ?_ | refine awp_skip ?_ | refine awp_ret ?_ | refine awp_exit ?_ | refine awp_region ?_ | refine awp_condM ?_ | refine And.intro ?_ ?_ | apply gQ_merge | apply gE_merge | exact EqV_w | exact EqE_w | exact EqV_ptr | exact EqE_ptr | exact EqV_msl | exact EqE_msl | exact EqV_agg | exact EqE_agg | exact EqV_fn | exact EqE_fn | exact EqV_gd | exact EqE_gd | refine gM_splitN ?_ ?_ | refine gM_split ?_ ?_ |  refine condM_splitDN ?_ ?_ | refine condM_splitD ?_ ?_ | refine condM_splitN ?_ ?_ | refine condM_split ?_ ?_ | refine condM_any ?_ ?_ | refine cw (rWithin_c _ _ _) ?_ | intro _) | (simp [*, hlt, cStop, hT]) | (refine cw_eq (rWithin_c _ _ _) ?_ ?_; (· (simp [*]; done))))
            all_goals try first | exact inI64 (by omega) (by omega) | omega | (simp only [sz0, sz1]; omega)
            all_goals (refine loopK_normal _ _ _ _ _ (k + 1) _ ?_ (by first | omega | (dsimp only; omega) | (simp; omega)) ?_; (· omega); (refine le_gen [] ?_ ?_ <;> first | trivial | (simp [*, show accF p (k + 1) = _ from ks]; done)))
          | false =>
            rw [if_neg (by decide)] at h4
            have ks := keep (h4.trans (by apply ByteArray.ext; simp : _ = (T ++ sp1 ++ ⟨#[43]⟩ ++ (nth p.riders j).name : ByteArray)))
            clear h4
            repeat' (first | (with_reducible first | refine awp_seq ?_ | refine awp_blockS ?_ | refine awp_blockC ?_ | refine awp_blockR ?_ | refine awp_skip ?_ | refine awp_ret ?_ | refine awp_exit ?_ | refine awp_region ?_ | refine awp_condM ?_ | refine And.intro ?_ ?_ | apply gQ_merge | apply gE_merge | exact EqV_w | exact EqE_w | exact EqV_ptr | exact EqE_ptr | exact EqV_msl | exact EqE_msl | exact EqV_agg | exact EqE_agg | exact EqV_fn | exact EqE_fn | exact EqV_gd | exact EqE_gd | refine gM_splitN ?_ ?_ | refine gM_split ?_ ?_ |  refine condM_splitDN ?_ ?_ | refine condM_splitD ?_ ?_ | refine condM_splitN ?_ ?_ | refine condM_split ?_ ?_ | refine condM_any ?_ ?_ | refine cw (rWithin_c _ _ _) ?_ | intro _) | (simp [*, hlt, cStop, hT]) | (refine cw_eq (rWithin_c _ _ _) ?_ ?_; (· (simp [*]; done))))
            all_goals try first | exact inI64 (by omega) (by omega) | omega | (simp only [sz0, sz1]; omega)
            all_goals (refine loopK_normal _ _ _ _ _ (k + 1) _ ?_ (by first | omega | (dsimp only; omega) | (simp; omega)) ?_; (· omega); (refine le_gen [] ?_ ?_ <;> first | trivial | (simp [*, show accF p (k + 1) = _ from ks]; done)))
    · have hke : k = p.stops.length := by omega
      subst hke
      clear kb
      repeat' (first | (with_reducible first | refine awp_seq ?_ | refine awp_blockS ?_ | refine awp_blockC ?_ | refine awp_blockR ?_ | refine awp_skip ?_ | refine awp_ret ?_ | refine awp_exit ?_ | refine awp_region ?_ | refine awp_condM ?_ | refine And.intro ?_ ?_ | apply gQ_merge | apply gE_merge | exact EqV_w | exact EqE_w | exact EqV_ptr | exact EqE_ptr | exact EqV_msl | exact EqE_msl | exact EqV_agg | exact EqE_agg | exact EqV_fn | exact EqE_fn | exact EqV_gd | exact EqE_gd | refine gM_splitN ?_ ?_ | refine gM_split ?_ ?_ |  refine condM_splitDN ?_ ?_ | refine condM_splitD ?_ ?_ | refine condM_splitN ?_ ?_ | refine condM_split ?_ ?_ | refine condM_any ?_ ?_ | intro _) | (simp [*]))
      all_goals (refine finW_intro () ?_ ?_; (· trivial); (refine le_gen [] ?_ ?_ <;> first | trivial | (simp [*]; done)))
  · repeat' (first | (with_reducible first | refine awp_seq ?_ | refine awp_blockS ?_ | refine awp_blockC ?_ | refine awp_blockR ?_ | refine awp_skip ?_ | refine awp_ret ?_ | refine awp_exit ?_ | refine awp_region ?_ | refine awp_condM ?_ | refine And.intro ?_ ?_ | apply gQ_merge | apply gE_merge | exact EqV_w | exact EqE_w | exact EqV_ptr | exact EqE_ptr | exact EqV_msl | exact EqE_msl | exact EqV_agg | exact EqE_agg | exact EqV_fn | exact EqE_fn | exact EqV_gd | exact EqE_gd | refine gM_splitN ?_ ?_ | refine gM_split ?_ ?_ |  refine condM_splitDN ?_ ?_ | refine condM_splitD ?_ ?_ | refine condM_splitN ?_ ?_ | refine condM_split ?_ ?_ | refine condM_any ?_ ?_ | intro _) | (simp [*]))
end Go.Proofs.YtiialcomflggcaaDoor
namespace Go.Proofs.YtiialcomflggcaaDoor
open Go Go.Fi
set_option maxRecDepth 20000

/-! ### the document's ParseStops -/
def nmL (rs : List Rider) : List ByteArray := rs.map (·.name)
@[simp] theorem nmL_len (rs : List Rider) : (nmL rs).length = rs.length := by simp [nmL]
theorem nmL_nth (rs : List Rider) (k : Nat) (h : k < rs.length) : nth (nmL rs) k = (nth rs k).name := by
  simp [nth, nmL, List.getD_eq_getElem?_getD, List.getElem?_eq_getElem h]
theorem nmL_take (rs : List Rider) (k : Nat) (h : k < rs.length) : nmL (rs.take (k + 1)) = nmL (rs.take k) ++ [(nth rs k).name] := by
  rw [take_succ_nth rs k h]; simp [nmL]
theorem nmL_known (rs : List Rider) (x : ByteArray) : (nmL rs).any (fun y => decide (y = x)) = knownB rs x := by
  simp [nmL, knownB, List.any_map, Function.comp_def]
theorem rHasText_c (l : List ByteArray) (hl : l.length < 100000) (x : ByteArray) : RealCall Tryd.prog 32 [.sl l.length (strP l), .str x] (.bool (l.any fun y => decide (y = x))) true := by
  generalize hR : (l.any fun y => decide (y = x)) = R
  have kR : Keep (((l.drop 0).any fun y => decide (y = x)) = R) := keep hR
  clear hR
  refine realcall_intro Tryd.func32 (by kernel_rfl) rfl (Nat.le_of_ble_eq_true (by kernel_rfl)) ?_
  simp only [Tryd.results32, Tryd.ntmps32]
  repeat' (first | (with_reducible first | refine awp_seq ?_ | refine awp_blockS ?_ | refine awp_blockC ?_ | refine awp_blockR ?_ | refine awp_skip ?_ | refine awp_ret ?_ | refine awp_exit ?_ | refine awp_region ?_ | refine awp_condM ?_ | refine And.intro ?_ ?_ | apply gQ_merge | apply gE_merge | exact EqV_w | exact EqE_w | exact EqV_ptr | exact EqE_ptr | exact EqV_msl | exact EqE_msl | exact EqV_agg | exact EqE_agg | exact EqV_fn | exact EqE_fn | exact EqV_gd | exact EqE_gd | refine gM_splitN ?_ ?_ | refine gM_split ?_ ?_ |  refine condM_splitDN ?_ ?_ | refine condM_splitD ?_ ?_ | refine condM_splitN ?_ ?_ | refine condM_split ?_ ?_ | refine condM_any ?_ ?_ | intro _) | (simp [*]))
  refine awp_for3 (fun (k : Nat) => k ≤ l.length ∧ Keep (((l.drop k).any fun y => decide (y = x)) = R)) [0, 1] (fun (k : Nat) => [(5, .w false false (.int .i64 k))]) [] (fun (k : Nat) => []) (fun (k : Nat) => l.length - k) (fun (_u : Unit) => R = false) [] (fun (_u : Unit) => []) [] (fun (_u : Unit) => []) (0) ⟨Nat.zero_le _, kR⟩ (by simp) (by simp) (fun k hk => ?_) (fun _u hf => ?_)
  · obtain ⟨hk, hj⟩ := hk
    by_cases hlt : k < l.length
    · have hj' := (show _ = R from hj)
      rw [drop_nth l k hlt] at hj'
      have kj : Keep ((decide (nth l k = x) || ((l.drop (k + 1)).any fun y => decide (y = x))) = R) := keep hj'
      clear hj hj'
      repeat' (first | (with_reducible first | refine awp_seq ?_ | refine awp_blockS ?_ | refine awp_blockC ?_ | refine awp_blockR ?_ | refine awp_skip ?_ | refine awp_ret ?_ | refine awp_exit ?_ | refine awp_region ?_ | refine awp_condM ?_ | refine And.intro ?_ ?_ | apply gQ_merge | apply gE_merge | exact EqV_w | exact EqE_w | exact EqV_ptr | exact EqE_ptr | exact EqV_msl | exact EqE_msl | exact EqV_agg | exact EqE_agg | exact EqV_fn | exact EqE_fn | exact EqV_gd | exact EqE_gd | refine gM_splitN ?_ ?_ | refine gM_split ?_ ?_ |  refine condM_splitDN ?_ ?_ | refine condM_splitD ?_ ?_ | refine condM_splitN ?_ ?_ | refine condM_split ?_ ?_ | refine condM_any ?_ ?_ | intro _) | (simp [*, hlt]))
      all_goals first
        | exact inI64 (by omega) (by omega)
        | omega
        | (rename_i hp; have := (show _ = R from kj); rw [decide_eq_true hp] at this; simpa using this)
        | (rename_i hp; have kj2 := (show _ = R from kj); rw [decide_eq_false hp, Bool.false_or] at kj2; (refine loopK_normal _ _ _ _ _ (k + 1) _ ?_ (by first | omega | (dsimp only; omega) | (simp; omega)) ?_; (· exact ⟨by omega, kj2⟩); (refine le_of ?_ ?_ <;> first | trivial | (simp [*]; done))))
        | skip
    · have hke : k = l.length := by omega
      subst hke
      have hj2 := (show _ = R from hj)
      rw [List.drop_length] at hj2
      have kj := keep hj2
      clear hj hj2
      repeat' (first | (with_reducible first | refine awp_seq ?_ | refine awp_blockS ?_ | refine awp_blockC ?_ | refine awp_blockR ?_ | refine awp_skip ?_ | refine awp_ret ?_ | refine awp_exit ?_ | refine awp_region ?_ | refine awp_condM ?_ | refine And.intro ?_ ?_ | apply gQ_merge | apply gE_merge | exact EqV_w | exact EqE_w | exact EqV_ptr | exact EqE_ptr | exact EqV_msl | exact EqE_msl | exact EqV_agg | exact EqE_agg | exact EqV_fn | exact EqE_fn | exact EqV_gd | exact EqE_gd | refine gM_splitN ?_ ?_ | refine gM_split ?_ ?_ |  refine condM_splitDN ?_ ?_ | refine condM_splitD ?_ ?_ | refine condM_splitN ?_ ?_ | refine condM_split ?_ ?_ | refine condM_any ?_ ?_ | intro _) | (simp [*]))
      all_goals (refine finW_intro () ?_ ?_; (· exact (show _ = R from kj).symm); (refine le_of ?_ ?_ <;> first | trivial | (simp [*]; done)))
  · subst hf
    repeat' (first | (with_reducible first | refine awp_seq ?_ | refine awp_blockS ?_ | refine awp_blockC ?_ | refine awp_blockR ?_ | refine awp_skip ?_ | refine awp_ret ?_ | refine awp_exit ?_ | refine awp_region ?_ | refine awp_condM ?_ | refine And.intro ?_ ?_ | apply gQ_merge | apply gE_merge | exact EqV_w | exact EqE_w | exact EqV_ptr | exact EqE_ptr | exact EqV_msl | exact EqE_msl | exact EqV_agg | exact EqE_agg | exact EqV_fn | exact EqE_fn | exact EqV_gd | exact EqE_gd | refine gM_splitN ?_ ?_ | refine gM_split ?_ ?_ |  refine condM_splitDN ?_ ?_ | refine condM_splitD ?_ ?_ | refine condM_splitN ?_ ?_ | refine condM_split ?_ ?_ | refine condM_any ?_ ?_ | intro _) | (simp [*]))
theorem sign_byte (w : ByteArray) (c : UInt8) (h : 1 ≤ w.size) : decide (w.extract 0 1 = ⟨#[c]⟩) = decide ((byteAt w 0 : Int) = (c.toNat : Int)) := by
  rw [byte_eq]
  have hl : w.data.toList.length = w.size := by simp
  apply decide_eq_decide.2
  cases hw : w.data.toList with
  | nil => rw [hw] at hl; simp at hl; omega
  | cons a r =>
    have e : (w.extract 0 1).data.toList = [a] := by
      rw [ByteArray.data_extract, Array.toList_extract, List.extract_eq_take_drop, hw]; simp
    constructor
    · intro h1
      rw [h1] at e
      simpa using e.symm
    · intro h1
      have h2 : a = c := by simpa using h1
      subst h2
      exact ba_ext e
def idxI : Option Nat → Int
  | none => -1
  | some i => (i : Int)
theorem badW_byte {w : ByteArray} (h : 2 ≤ w.size) : badW w = (!decide ((byteAt w 0 : Int) = 43) && !decide ((byteAt w 0 : Int) = 45)) := by
  unfold badW signB plus1 minus1
  rw [decide_eq_false (by omega), sign_byte w 43 (by omega), sign_byte w 45 (by omega)]
  rfl
def noBad (W : List ByteArray) : Prop := W.any badW = false
def restBad (W : List ByteArray) (k : Nat) : Prop := (W.drop k).any badW = W.any badW
def restStops (rs : List Rider) (W : List ByteArray) (k : Nat) (out : List Stop) : Prop := stopsL rs W = (stopsL rs (W.drop k)).map (out ++ ·)
def allStops (rs : List Rider) (W : List ByteArray) (T : List Stop) : Prop := stopsL rs W = some T
set_option maxHeartbeats 16000000 in
theorem rParse_main (rs : List Rider) (hl : rs.length ≤ 6) (hnm : ∀ k, k < rs.length → (nth rs k).name.size < 1000000) (s : ByteArray) (hs : s.size < 1000) (hp : (pieces s sp1).length ≤ 1001) (V : List Stop) (v : Int)
    (hA : namesE rs rs.length 0 ≠ 0 → V = [] ∧ v = namesE rs rs.length 0) (hE : namesE rs rs.length 0 = 0 → s = ⟨#[]⟩ → V = [] ∧ v = 0)
    (hB : namesE rs rs.length 0 = 0 → s ≠ ⟨#[]⟩ → (pieces s sp1).any badW = true → V = [] ∧ v = 7)
    (hN : namesE rs rs.length 0 = 0 → s ≠ ⟨#[]⟩ → (pieces s sp1).any badW = false → stopsL rs (pieces s sp1) = none → V = [] ∧ v = 6)
    (hS : namesE rs rs.length 0 = 0 → s ≠ ⟨#[]⟩ → (pieces s sp1).any badW = false → ∀ l, stopsL rs (pieces s sp1) = some l → V = l ∧ v = 0) :
    RealCall Tryd.prog 9 [.sl rs.length (cRiders rs), .str s] (.tup [.sl V.length (cStops V), .int .i64 v]) true := by
  have kA := keep hA
  have kE := keep hE
  have kB := keep hB
  have kN := keep hN
  have kS := keep hS
  have kn := keep hnm
  clear hA hE hB hN hS hnm
  have hlI : ¬ (6 : Int) < (rs.length : Int) := by omega
  refine realcall_intro Tryd.func9 (by kernel_rfl) rfl (Nat.le_of_ble_eq_true (by kernel_rfl)) ?_
  simp only [Tryd.results9, Tryd.ntmps9]
  repeat' (first | (with_reducible first | refine awp_seq ?_ | refine awp_blockS ?_ | refine awp_blockC ?_ | refine awp_blockR ?_ | refine awp_skip ?_ | refine awp_ret ?_ | refine awp_exit ?_ | refine awp_region ?_ | refine awp_regionD (id := 28) 10 mixed (by decide +kernel) ?_ | refine awp_condM ?_ | refine And.intro ?_ ?_ | apply gQ_merge | apply gE_merge | exact EqV_w | exact EqE_w | exact EqV_ptr | exact EqE_ptr | exact EqV_msl | exact EqE_msl | exact EqV_agg | exact EqE_agg | exact EqV_fn | exact EqE_fn | exact EqV_gd | exact EqE_gd | refine gM_splitN ?_ ?_ | refine gM_split ?_ ?_ |  refine condM_splitDN ?_ ?_ | refine condM_splitD ?_ ?_ | refine condM_splitN ?_ ?_ | refine condM_split ?_ ?_ | refine condM_any ?_ ?_ | intro _) | (simp [*, hlI]))
  refine awp_for4 1 (fun (k : Nat) => k ≤ rs.length ∧ namesE rs (rs.length - k) k = namesE rs rs.length 0) [0, 1] (fun (k : Nat) => [(7, .w false false (.int .i64 k)), (6, .msl 0 k 1 0 k)]) [] (fun (k : Nat) => [(0, stA (nmL (rs.take k)))]) (fun (k : Nat) => rs.length - k) (fun (_u : Unit) => namesE rs rs.length 0 = 0) [1] (fun (_u : Unit) => [(6, .w false false (.sl rs.length (strP (nmL rs))))]) [] (fun (_u : Unit) => []) (0) ⟨Nat.zero_le _, rfl⟩ (le_gen [] (by simp [(show nmL [] = [] from rfl)]) (by simp [(show nmL [] = [] from rfl)])) (fun k hk => ?_) (fun _u hf => ?_)
  · obtain ⟨hk, hj⟩ := hk
    by_cases hlt : k < rs.length
    · rw [show rs.length - k = (rs.length - (k + 1)) + 1 by omega, namesE] at hj
      have c1 := rIsName_c (nth rs k).name ((show ∀ k, k < rs.length → (nth rs k).name.size < 1000000 from kn) k hlt)
      have c2 := rHasText_c (nmL (rs.take k)) (by rw [nmL_len, take_len _ _ (by omega)]; omega) (nth rs k).name
      rw [nmL_known] at c2
      have htl : (nmL (rs.take k)).length = k := by rw [nmL_len, take_len _ _ (by omega)]
      rw [htl] at c2
      have hnmE : nmE rs k = firstS [errUnless (nameB (nth rs k).name) 4, errUnless (!knownB (rs.take k) (nth rs k).name) 5] := rfl
      have kt := keep (nmL_take rs k hlt)
      have ktl := keep htl
      generalize hNB : nameB (nth rs k).name = NB at *
      generalize hKB : knownB (rs.take k) (nth rs k).name = KB at *
      clear hNB hKB htl
      generalize nmL (rs.take k) = L at *
      cases NB with
      | false =>
        have e4 : nmE rs k = 4 := by rw [hnmE]; rfl
        rw [e4] at hj
        obtain ⟨e1, e2⟩ := (show namesE rs rs.length 0 ≠ 0 → _ from kA) (by rw [← hj]; simp)
        subst e1
        rw [← hj] at e2
        simp at e2
        subst e2
        have htl := (show L.length = k from ktl)
        clear hj kA kE kB kN kS kn hnmE e4 kt c2 ktl
        repeat' (first | (with_reducible first | refine awp_seq ?_ | refine awp_blockS ?_ | refine awp_blockC ?_ | refine awp_blockR ?_ | refine awp_skip ?_ | refine awp_ret ?_ | refine awp_exit ?_ | refine awp_region ?_ | refine awp_regionD (id := 28) 10 mixed (by decide +kernel) ?_ | refine awp_condM ?_ | refine And.intro ?_ ?_ | apply gQ_merge | apply gE_merge | exact EqV_w | exact EqE_w | exact EqV_ptr | exact EqE_ptr | exact EqV_msl | exact EqE_msl | exact EqV_agg | exact EqE_agg | exact EqV_fn | exact EqE_fn | exact EqV_gd | exact EqE_gd | refine gM_splitN ?_ ?_ | refine gM_split ?_ ?_ |  refine condM_splitDN ?_ ?_ | refine condM_splitD ?_ ?_ | refine condM_splitN ?_ ?_ | refine condM_split ?_ ?_ | refine condM_any ?_ ?_ | refine cw (c1) ?_ | intro _) | (simp [*, hlt, cRider]) | (refine cw_eq (c1) ?_ ?_; (· (simp [*]; done))))
        all_goals try first | exact inI64 (by omega) (by omega) | omega
      | true =>
        cases KB with
        | true =>
          have e4 : nmE rs k = 5 := by rw [hnmE]; rfl
          rw [e4] at hj
          obtain ⟨e1, e2⟩ := (show namesE rs rs.length 0 ≠ 0 → _ from kA) (by rw [← hj]; simp)
          subst e1
          rw [← hj] at e2
          simp at e2
          subst e2
          have htl := (show L.length = k from ktl)
          clear hj kA kE kB kN kS kn hnmE e4 kt ktl
          repeat' (first | (with_reducible first | refine awp_seq ?_ | refine awp_blockS ?_ | refine awp_blockC ?_ | refine awp_blockR ?_ | refine awp_skip ?_ | refine awp_ret ?_ | refine awp_exit ?_ | refine awp_region ?_ | refine awp_regionD (id := 28) 10 mixed (by decide +kernel) ?_ | refine awp_condM ?_ | refine And.intro ?_ ?_ | apply gQ_merge | apply gE_merge | exact EqV_w | exact EqE_w | exact EqV_ptr | exact EqE_ptr | exact EqV_msl | exact EqE_msl | exact EqV_agg | exact EqE_agg | exact EqV_fn | exact EqE_fn | exact EqV_gd | exact EqE_gd | refine gM_splitN ?_ ?_ | refine gM_split ?_ ?_ |  refine condM_splitDN ?_ ?_ | refine condM_splitD ?_ ?_ | refine condM_splitN ?_ ?_ | refine condM_split ?_ ?_ | refine condM_any ?_ ?_ | refine cw (c1) ?_ | refine cw (c2) ?_ | intro _) | (simp [*, hlt, cRider]) | (refine cw_eq (c1) ?_ ?_; (· (simp [*]; done))) | (refine cw_eq (c2) ?_ ?_; (· (simp [*]; done))))
          all_goals try first | exact inI64 (by omega) (by omega) | omega
        | false =>
          have e4 : nmE rs k = 0 := by rw [hnmE]; rfl
          rw [if_pos e4] at hj
          have kj := keep hj
          have htl := (show L.length = k from ktl)
          clear hj kA kE kB kN kS kn hnmE e4 ktl
          repeat' (first | (with_reducible first | refine awp_seq ?_ | refine awp_blockS ?_ | refine awp_blockC ?_ | refine awp_blockR ?_ | refine awp_skip ?_ | refine awp_ret ?_ | refine awp_exit ?_ | refine awp_region ?_ | refine awp_regionD (id := 28) 10 mixed (by decide +kernel) ?_ | refine awp_condM ?_ | refine And.intro ?_ ?_ | apply gQ_merge | apply gE_merge | exact EqV_w | exact EqE_w | exact EqV_ptr | exact EqE_ptr | exact EqV_msl | exact EqE_msl | exact EqV_agg | exact EqE_agg | exact EqV_fn | exact EqE_fn | exact EqV_gd | exact EqE_gd | refine gM_splitN ?_ ?_ | refine gM_split ?_ ?_ |  refine condM_splitDN ?_ ?_ | refine condM_splitD ?_ ?_ | refine condM_splitN ?_ ?_ | refine condM_split ?_ ?_ | refine condM_any ?_ ?_ | refine cw (c1) ?_ | refine cw (c2) ?_ | intro _) | (simp [*, hlt, cRider]) | (refine cw_eq (c1) ?_ ?_; (· (simp [*]; done))) | (refine cw_eq (c2) ?_ ?_; (· (simp [*]; done))))
          all_goals try first | exact inI64 (by omega) (by omega) | omega
          all_goals (refine loopK_normal _ _ _ _ _ (k + 1) _ ?_ (by first | omega | (dsimp only; omega) | (simp; omega)) ?_; (· exact ⟨by omega, kj⟩); (refine le_gen [] ?_ ?_ <;> first | trivial | (simp [*, (show nmL (rs.take (k + 1)) = _ from kt)]; done)))
    · have hke : k = rs.length := by omega
      subst hke
      rw [Nat.sub_self] at hj
      clear kA kE kB kN kS kn
      repeat' (first | (with_reducible first | refine awp_seq ?_ | refine awp_blockS ?_ | refine awp_blockC ?_ | refine awp_blockR ?_ | refine awp_skip ?_ | refine awp_ret ?_ | refine awp_exit ?_ | refine awp_region ?_ | refine awp_regionD (id := 28) 10 mixed (by decide +kernel) ?_ | refine awp_condM ?_ | refine And.intro ?_ ?_ | apply gQ_merge | apply gE_merge | exact EqV_w | exact EqE_w | exact EqV_ptr | exact EqE_ptr | exact EqV_msl | exact EqE_msl | exact EqV_agg | exact EqE_agg | exact EqV_fn | exact EqE_fn | exact EqV_gd | exact EqE_gd | refine gM_splitN ?_ ?_ | refine gM_split ?_ ?_ |  refine condM_splitDN ?_ ?_ | refine condM_splitD ?_ ?_ | refine condM_splitN ?_ ?_ | refine condM_split ?_ ?_ | refine condM_any ?_ ?_ | intro _) | (simp [*]))
      all_goals (refine finW_intro () ?_ ?_; (· exact hj.symm); (refine le_gen [0] ?_ ?_ <;> first | trivial | (simp [*, List.take_length]; done)))
  · by_cases he : s = ⟨#[]⟩
    · obtain ⟨e1, e2⟩ := (show namesE rs rs.length 0 = 0 → s = ⟨#[]⟩ → _ from kE) hf he
      subst e1 e2 he
      clear kA kE kB kN kS kn hf
      repeat' (first | (with_reducible first | refine awp_seq ?_ | refine awp_blockS ?_ | refine awp_blockC ?_ | refine awp_blockR ?_ | refine awp_skip ?_ | refine awp_ret ?_ | refine awp_exit ?_ | refine awp_region ?_ | refine awp_regionD (id := 28) 10 mixed (by decide +kernel) ?_ | refine awp_condM ?_ | refine And.intro ?_ ?_ | apply gQ_merge | apply gE_merge | exact EqV_w | exact EqE_w | exact EqV_ptr | exact EqE_ptr | exact EqV_msl | exact EqE_msl | exact EqV_agg | exact EqE_agg | exact EqV_fn | exact EqE_fn | exact EqV_gd | exact EqE_gd | refine gM_splitN ?_ ?_ | refine gM_split ?_ ?_ |  refine condM_splitDN ?_ ?_ | refine condM_splitD ?_ ?_ | refine condM_splitN ?_ ?_ | refine condM_split ?_ ?_ | refine condM_any ?_ ?_ | intro _) | (simp [*]))
    · have c3 : RealCall Tryd.prog 33 [.str s, .int .u8 32] (.sl (pieces s sp1).length (strP (pieces s sp1))) true := rCut_c s 32 (by omega)
      have kB2 := keep ((show namesE rs rs.length 0 = 0 → s ≠ ⟨#[]⟩ → (pieces s sp1).any badW = true → V = [] ∧ v = 7 from kB) hf he)
      have kN2 := keep ((show namesE rs rs.length 0 = 0 → s ≠ ⟨#[]⟩ → (pieces s sp1).any badW = false → stopsL rs (pieces s sp1) = none → V = [] ∧ v = 6 from kN) hf he)
      have kS2 := keep ((show namesE rs rs.length 0 = 0 → s ≠ ⟨#[]⟩ → (pieces s sp1).any badW = false → ∀ l, stopsL rs (pieces s sp1) = some l → V = l ∧ v = 0 from kS) hf he)
      have klen := keep (nmL_len rs)
      have knth := keep (nmL_nth rs)
      clear kA kE kB kN kS kn hf
      generalize pieces s sp1 = W at *
      have klm := (show (nmL rs).length = rs.length from klen)
      generalize nmL rs = L at *
      repeat' (first | (with_reducible first | refine awp_seq ?_ | refine awp_blockS ?_ | refine awp_blockC ?_ | refine awp_blockR ?_ | refine awp_skip ?_ | refine awp_ret ?_ | refine awp_exit ?_ | refine awp_region ?_ | refine awp_regionD (id := 28) 10 mixed (by decide +kernel) ?_ | refine awp_condM ?_ | refine And.intro ?_ ?_ | apply gQ_merge | apply gE_merge | exact EqV_w | exact EqE_w | exact EqV_ptr | exact EqE_ptr | exact EqV_msl | exact EqE_msl | exact EqV_agg | exact EqE_agg | exact EqV_fn | exact EqE_fn | exact EqV_gd | exact EqE_gd | refine gM_splitN ?_ ?_ | refine gM_split ?_ ?_ |  refine condM_splitDN ?_ ?_ | refine condM_splitD ?_ ?_ | refine condM_splitN ?_ ?_ | refine condM_split ?_ ?_ | refine condM_any ?_ ?_ | refine cw (c3) ?_ | intro _) | (simp [*, he]) | (refine cw_eq (c3) ?_ ?_; (· (simp [*]; done))))
      refine awp_for4 1 (fun (k : Nat) => k ≤ W.length ∧ restBad W k) [6, 8] (fun (k : Nat) => [(9, .w false false (.int .i64 k))]) [] (fun (k : Nat) => []) (fun (k : Nat) => W.length - k) (fun (_u : Unit) => noBad W) [6, 8] (fun (_u : Unit) => []) [] (fun (_u : Unit) => []) (0) ⟨Nat.zero_le _, rfl⟩ (le_gen [] (by simp) (by simp)) (fun k hk => ?_) (fun _u hf => ?_)
      · obtain ⟨hk, hj⟩ := hk
        by_cases hlt : k < W.length
        · have hj2 := (show _ = W.any badW from hj)
          rw [drop_nth W k hlt, List.any_cons] at hj2
          have kB3 := kB2
          clear hj kN2 kS2 c3 knth klen kB2
          by_cases h2 : (nth W k).size < 2
          · have e : badW (nth W k) = true := by unfold badW; rw [decide_eq_true h2]; rfl
            rw [e, Bool.true_or] at hj2
            obtain ⟨e1, e2⟩ := (show W.any badW = true → _ from kB3) hj2.symm
            subst e1 e2
            have h2I : ((nth W k).size : Int) < 2 := by omega
            clear kB3 hj2 e
            repeat' (first | (with_reducible first | refine awp_seq ?_ | refine awp_blockS ?_ | refine awp_blockC ?_ | refine awp_blockR ?_ | refine awp_skip ?_ | refine awp_ret ?_ | refine awp_exit ?_ | refine awp_region ?_ | refine awp_regionD (id := 28) 10 mixed (by decide +kernel) ?_ | refine awp_condM ?_ | refine And.intro ?_ ?_ | apply gQ_merge | apply gE_merge | exact EqV_w | exact EqE_w | exact EqV_ptr | exact EqE_ptr | exact EqV_msl | exact EqE_msl | exact EqV_agg | exact EqE_agg | exact EqV_fn | exact EqE_fn | exact EqV_gd | exact EqE_gd | refine gM_splitN ?_ ?_ | refine gM_split ?_ ?_ |  refine condM_splitDN ?_ ?_ | refine condM_splitD ?_ ?_ | refine condM_splitN ?_ ?_ | refine condM_split ?_ ?_ | refine condM_any ?_ ?_ | intro _) | (simp [*, hlt, h2I]))
            all_goals try first | exact inI64 (by omega) (by omega) | omega
          · have h2I : ¬ ((nth W k).size : Int) < 2 := by omega
            have h0I : (0 : Int) < ((nth W k).size : Int) := by omega
            have e := badW_byte (w := nth W k) (by omega)
            by_cases h3 : (byteAt (nth W k) 0 : Int) = 43
            · rw [decide_eq_true h3] at e
              rw [e] at hj2
              have kj : restBad W (k + 1) := hj2
              clear kB3 hj2 e
              repeat' (first | (with_reducible first | refine awp_seq ?_ | refine awp_blockS ?_ | refine awp_blockC ?_ | refine awp_blockR ?_ | refine awp_skip ?_ | refine awp_ret ?_ | refine awp_exit ?_ | refine awp_region ?_ | refine awp_regionD (id := 28) 10 mixed (by decide +kernel) ?_ | refine awp_condM ?_ | refine And.intro ?_ ?_ | apply gQ_merge | apply gE_merge | exact EqV_w | exact EqE_w | exact EqV_ptr | exact EqE_ptr | exact EqV_msl | exact EqE_msl | exact EqV_agg | exact EqE_agg | exact EqV_fn | exact EqE_fn | exact EqV_gd | exact EqE_gd | refine gM_splitN ?_ ?_ | refine gM_split ?_ ?_ |  refine condM_splitDN ?_ ?_ | refine condM_splitD ?_ ?_ | refine condM_splitN ?_ ?_ | refine condM_split ?_ ?_ | refine condM_any ?_ ?_ | intro _) | (simp [*, hlt, h2I, h0I, h3]))
              all_goals try first | exact inI64 (by omega) (by omega) | omega
              all_goals (refine loopK_normal _ _ _ _ _ (k + 1) _ ?_ (by first | omega | (dsimp only; omega) | (simp; omega)) ?_; (· exact ⟨by omega, kj⟩); (refine le_gen [] ?_ ?_ <;> first | trivial | (simp [*]; done)))
            · by_cases h4 : (byteAt (nth W k) 0 : Int) = 45
              · rw [decide_eq_true h4, Bool.not_true, Bool.and_false] at e
                rw [e] at hj2
                have kj : restBad W (k + 1) := hj2
                clear kB3 hj2 e
                repeat' (first | (with_reducible first | refine awp_seq ?_ | refine awp_blockS ?_ | refine awp_blockC ?_ | refine awp_blockR ?_ | refine awp_skip ?_ | refine awp_ret ?_ | refine awp_exit ?_ | refine awp_region ?_ | refine awp_regionD (id := 28) 10 mixed (by decide +kernel) ?_ | refine awp_condM ?_ | refine And.intro ?_ ?_ | apply gQ_merge | apply gE_merge | exact EqV_w | exact EqE_w | exact EqV_ptr | exact EqE_ptr | exact EqV_msl | exact EqE_msl | exact EqV_agg | exact EqE_agg | exact EqV_fn | exact EqE_fn | exact EqV_gd | exact EqE_gd | refine gM_splitN ?_ ?_ | refine gM_split ?_ ?_ |  refine condM_splitDN ?_ ?_ | refine condM_splitD ?_ ?_ | refine condM_splitN ?_ ?_ | refine condM_split ?_ ?_ | refine condM_any ?_ ?_ | intro _) | (simp [*, hlt, h2I, h0I, h3, h4]))
                all_goals try first | exact inI64 (by omega) (by omega) | omega
                all_goals (refine loopK_normal _ _ _ _ _ (k + 1) _ ?_ (by first | omega | (dsimp only; omega) | (simp; omega)) ?_; (· exact ⟨by omega, kj⟩); (refine le_gen [] ?_ ?_ <;> first | trivial | (simp [*]; done)))
              · rw [decide_eq_false h3, decide_eq_false h4] at e
                rw [e, show ((!false && !false) = true) from rfl, Bool.true_or] at hj2
                obtain ⟨e1, e2⟩ := (show W.any badW = true → _ from kB3) hj2.symm
                subst e1 e2
                clear kB3 hj2 e
                repeat' (first | (with_reducible first | refine awp_seq ?_ | refine awp_blockS ?_ | refine awp_blockC ?_ | refine awp_blockR ?_ | refine awp_skip ?_ | refine awp_ret ?_ | refine awp_exit ?_ | refine awp_region ?_ | refine awp_regionD (id := 28) 10 mixed (by decide +kernel) ?_ | refine awp_condM ?_ | refine And.intro ?_ ?_ | apply gQ_merge | apply gE_merge | exact EqV_w | exact EqE_w | exact EqV_ptr | exact EqE_ptr | exact EqV_msl | exact EqE_msl | exact EqV_agg | exact EqE_agg | exact EqV_fn | exact EqE_fn | exact EqV_gd | exact EqE_gd | refine gM_splitN ?_ ?_ | refine gM_split ?_ ?_ |  refine condM_splitDN ?_ ?_ | refine condM_splitD ?_ ?_ | refine condM_splitN ?_ ?_ | refine condM_split ?_ ?_ | refine condM_any ?_ ?_ | intro _) | (simp [*, hlt, h2I, h0I, h3, h4]))
                all_goals try first | exact inI64 (by omega) (by omega) | omega
        · have hke : k = W.length := by omega
          subst hke
          have hj2 := (show _ = W.any badW from hj)
          rw [List.drop_length] at hj2
          have kj : noBad W := hj2.symm
          clear hj hj2 kN2 kS2 kB2 c3 knth klen
          repeat' (first | (with_reducible first | refine awp_seq ?_ | refine awp_blockS ?_ | refine awp_blockC ?_ | refine awp_blockR ?_ | refine awp_skip ?_ | refine awp_ret ?_ | refine awp_exit ?_ | refine awp_region ?_ | refine awp_regionD (id := 28) 10 mixed (by decide +kernel) ?_ | refine awp_condM ?_ | refine And.intro ?_ ?_ | apply gQ_merge | apply gE_merge | exact EqV_w | exact EqE_w | exact EqV_ptr | exact EqE_ptr | exact EqV_msl | exact EqE_msl | exact EqV_agg | exact EqE_agg | exact EqV_fn | exact EqE_fn | exact EqV_gd | exact EqE_gd | refine gM_splitN ?_ ?_ | refine gM_split ?_ ?_ |  refine condM_splitDN ?_ ?_ | refine condM_splitD ?_ ?_ | refine condM_splitN ?_ ?_ | refine condM_split ?_ ?_ | refine condM_any ?_ ?_ | intro _) | (simp [*]))
          all_goals (refine finW_intro () ?_ ?_; (· first | exact kj | trivial); (refine le_gen [] ?_ ?_ <;> first | trivial | (simp [*]; done)))
      · have hb := (show W.any badW = false from hf)
        have kN3 := keep ((show W.any badW = false → _ from kN2) hb)
        have kS3 := keep ((show W.any badW = false → _ from kS2) hb)
        have kW := keep (List.any_eq_false.1 hb)
        clear hf hb kN2 kS2 kB2 c3
        repeat' (first | (with_reducible first | refine awp_seq ?_ | refine awp_blockS ?_ | refine awp_blockC ?_ | refine awp_blockR ?_ | refine awp_skip ?_ | refine awp_ret ?_ | refine awp_exit ?_ | refine awp_region ?_ | refine awp_regionD (id := 28) 10 mixed (by decide +kernel) ?_ | refine awp_condM ?_ | refine And.intro ?_ ?_ | apply gQ_merge | apply gE_merge | exact EqV_w | exact EqE_w | exact EqV_ptr | exact EqE_ptr | exact EqV_msl | exact EqE_msl | exact EqV_agg | exact EqE_agg | exact EqV_fn | exact EqE_fn | exact EqV_gd | exact EqE_gd | refine gM_splitN ?_ ?_ | refine gM_split ?_ ?_ |  refine condM_splitDN ?_ ?_ | refine condM_splitD ?_ ?_ | refine condM_splitN ?_ ?_ | refine condM_split ?_ ?_ | refine condM_any ?_ ?_ | intro _) | (simp [*]))
        refine awp_for4 2 (fun (x : Nat × List Stop) => x.1 ≤ W.length ∧ x.2.length = x.1 ∧ restStops rs W x.1 x.2) [6, 8] (fun (x : Nat × List Stop) => [(11, .w false false (.int .i64 x.1)), (10, .msl 1 (x.2.length * 2) 2 0 x.2.length)]) [] (fun (x : Nat × List Stop) => [(1, psA x.2)]) (fun (x : Nat × List Stop) => W.length - x.1) (fun (T : List Stop) => allStops rs W T ∧ T.length = W.length) [] (fun (T : List Stop) => [(10, .msl 1 (T.length * 2) 2 0 T.length)]) [] (fun (T : List Stop) => [(1, psA T)]) ((0, [])) ⟨Nat.zero_le _, rfl, (by unfold restStops; simp)⟩ (le_gen [] (by simp) (by simp)) (fun x hk => ?_) (fun T hf => ?_)
        · obtain ⟨k, out⟩ := x
          obtain ⟨hk, ho, hj⟩ := hk
          simp only at hk ho
          by_cases hlt : k < W.length
          · have hw := (show ∀ a ∈ W, ¬ badW a = true from kW) _ (nth_mem hlt)
            have h2 : 2 ≤ (nth W k).size := by
              rcases Nat.lt_or_ge (nth W k).size 2 with h | h
              · exact absurd (by unfold badW; rw [decide_eq_true h]; rfl) hw
              · exact h
            have h1I : (1 : Int) ≤ ((nth W k).size : Int) := by omega
            have h0I : (0 : Int) < ((nth W k).size : Int) := by omega
            have hj2 := (show stopsL rs W = (stopsL rs (W.drop k)).map (out ++ ·) from hj)
            rw [stopsL_drop rs W k hlt] at hj2
            have kj := keep hj2
            clear hj hj2 kW hw
            repeat' (first | (with_reducible first | refine awp_seq ?_ | refine awp_blockS ?_ | refine awp_blockC ?_ | refine awp_blockR ?_ | refine awp_skip ?_ | refine awp_ret ?_ | refine awp_exit ?_ | refine awp_region ?_ | refine awp_regionD (id := 28) 10 mixed (by decide +kernel) ?_ | refine awp_condM ?_ | refine And.intro ?_ ?_ | apply gQ_merge | apply gE_merge | exact EqV_w | exact EqE_w | exact EqV_ptr | exact EqE_ptr | exact EqV_msl | exact EqE_msl | exact EqV_agg | exact EqE_agg | exact EqV_fn | exact EqE_fn | exact EqV_gd | exact EqE_gd | refine gM_splitN ?_ ?_ | refine gM_split ?_ ?_ |  refine condM_splitDN ?_ ?_ | refine condM_splitD ?_ ?_ | refine condM_splitN ?_ ?_ | refine condM_split ?_ ?_ | refine condM_any ?_ ?_ | intro _) | (simp [*, hlt]))
            all_goals try first | exact inI64 (by omega) (by omega) | omega
            refine awp_for4 2 (fun (j : Nat) => j ≤ rs.length) [6, 8, 10, 11] (fun (j : Nat) => [(13, .w false false (.int .i64 j)), (12, .w false false (.int .i64 (idxI (findR rs (tailB (nth W k)) j))))]) [1] (fun (j : Nat) => []) (fun (j : Nat) => rs.length - j) (fun (_u : Unit) => True) [6, 8, 10, 11] (fun (_u : Unit) => [(12, .w false false (.int .i64 (idxI (findR rs (tailB (nth W k)) rs.length))))]) [1] (fun (_u : Unit) => []) (0) (Nat.zero_le _) (le_gen [] (by simp [(show idxI (findR rs (tailB (nth W k)) 0) = -1 from rfl)]) (by simp [(show idxI (findR rs (tailB (nth W k)) 0) = -1 from rfl)])) (fun j hk => ?_) (fun _u hf => ?_)
            · rename_i j hk
              clear kj kN3 kS3
              by_cases hjl : j < rs.length
              · have hjL : j < L.length := by omega
                have hn := (show ∀ k, k < rs.length → nth L k = (nth rs k).name from knth) j hjl
                have hfs : findR rs (tailB (nth W k)) (j + 1) = if (nth rs j).name = tailB (nth W k) then some j else findR rs (tailB (nth W k)) j := rfl
                rw [← hn] at hfs
                clear hn
                unfold tailB at *
                by_cases hq : nth L j = (nth W k).extract 1 (nth W k).size
                · rw [if_pos hq] at hfs
                  have ks := keep hfs
                  clear hfs
                  repeat' (first | (with_reducible first | refine awp_seq ?_ | refine awp_blockS ?_ | refine awp_blockC ?_ | refine awp_blockR ?_ | refine awp_skip ?_ | refine awp_ret ?_ | refine awp_exit ?_ | refine awp_region ?_ | refine awp_regionD (id := 28) 10 mixed (by decide +kernel) ?_ | refine awp_condM ?_ | refine And.intro ?_ ?_ | apply gQ_merge | apply gE_merge | exact EqV_w | exact EqE_w | exact EqV_ptr | exact EqE_ptr | exact EqV_msl | exact EqE_msl | exact EqV_agg | exact EqE_agg | exact EqV_fn | exact EqE_fn | exact EqV_gd | exact EqE_gd | refine gM_splitN ?_ ?_ | refine gM_split ?_ ?_ |  refine condM_splitDN ?_ ?_ | refine condM_splitD ?_ ?_ | refine condM_splitN ?_ ?_ | refine condM_split ?_ ?_ | refine condM_any ?_ ?_ | intro _) | (simp [*, hlt, hjl, hjL, h1I, hq]))
                  all_goals try first | exact inI64 (by omega) (by omega) | omega
                  all_goals (refine loopK_normal _ _ _ _ _ (j + 1) _ ?_ (by first | omega | (dsimp only; omega) | (simp; omega)) ?_; (· omega); (refine le_gen [] ?_ ?_ <;> first | trivial | (simp [*, (show findR rs _ (j + 1) = _ from ks), idxI]; done)))
                · rw [if_neg hq] at hfs
                  have ks := keep hfs
                  clear hfs
                  repeat' (first | (with_reducible first | refine awp_seq ?_ | refine awp_blockS ?_ | refine awp_blockC ?_ | refine awp_blockR ?_ | refine awp_skip ?_ | refine awp_ret ?_ | refine awp_exit ?_ | refine awp_region ?_ | refine awp_regionD (id := 28) 10 mixed (by decide +kernel) ?_ | refine awp_condM ?_ | refine And.intro ?_ ?_ | apply gQ_merge | apply gE_merge | exact EqV_w | exact EqE_w | exact EqV_ptr | exact EqE_ptr | exact EqV_msl | exact EqE_msl | exact EqV_agg | exact EqE_agg | exact EqV_fn | exact EqE_fn | exact EqV_gd | exact EqE_gd | refine gM_splitN ?_ ?_ | refine gM_split ?_ ?_ |  refine condM_splitDN ?_ ?_ | refine condM_splitD ?_ ?_ | refine condM_splitN ?_ ?_ | refine condM_split ?_ ?_ | refine condM_any ?_ ?_ | intro _) | (simp [*, hlt, hjl, hjL, h1I, hq]))
                  all_goals try first | exact inI64 (by omega) (by omega) | omega
                  all_goals (refine loopK_normal _ _ _ _ _ (j + 1) _ ?_ (by first | omega | (dsimp only; omega) | (simp; omega)) ?_; (· omega); (refine le_gen [] ?_ ?_ <;> first | trivial | (simp [*, (show findR rs _ (j + 1) = _ from ks)]; done)))
              · have hke : j = rs.length := by omega
                subst hke
                repeat' (first | (with_reducible first | refine awp_seq ?_ | refine awp_blockS ?_ | refine awp_blockC ?_ | refine awp_blockR ?_ | refine awp_skip ?_ | refine awp_ret ?_ | refine awp_exit ?_ | refine awp_region ?_ | refine awp_regionD (id := 28) 10 mixed (by decide +kernel) ?_ | refine awp_condM ?_ | refine And.intro ?_ ?_ | apply gQ_merge | apply gE_merge | exact EqV_w | exact EqE_w | exact EqV_ptr | exact EqE_ptr | exact EqV_msl | exact EqE_msl | exact EqV_agg | exact EqE_agg | exact EqV_fn | exact EqE_fn | exact EqV_gd | exact EqE_gd | refine gM_splitN ?_ ?_ | refine gM_split ?_ ?_ |  refine condM_splitDN ?_ ?_ | refine condM_splitD ?_ ?_ | refine condM_splitN ?_ ?_ | refine condM_split ?_ ?_ | refine condM_any ?_ ?_ | intro _) | (simp [*]))
                all_goals (refine finW_intro () ?_ ?_; (· trivial); (refine le_gen [] ?_ ?_ <;> first | trivial | (simp [*]; done)))
            · clear hf
              have hsb := sign_byte (nth W k) 45 (by omega)
              cases hf : findR rs (tailB (nth W k)) rs.length with
              | none =>
                have hj3 := (show stopsL rs W = Option.map _ (match findR rs (tailB (nth W k)) rs.length with | none => none | some i => _) from kj)
                rw [hf] at hj3
                obtain ⟨e1, e2⟩ := (show stopsL rs W = none → V = [] ∧ v = 6 from kN3) hj3
                subst e1 e2
                clear hj3 kj kN3 kS3 hsb hf
                repeat' (first | (with_reducible first | refine awp_seq ?_ | refine awp_blockS ?_ | refine awp_blockC ?_ | refine awp_blockR ?_ | refine awp_skip ?_ | refine awp_ret ?_ | refine awp_exit ?_ | refine awp_region ?_ | refine awp_regionD (id := 28) 10 mixed (by decide +kernel) ?_ | refine awp_condM ?_ | refine And.intro ?_ ?_ | apply gQ_merge | apply gE_merge | exact EqV_w | exact EqE_w | exact EqV_ptr | exact EqE_ptr | exact EqV_msl | exact EqE_msl | exact EqV_agg | exact EqE_agg | exact EqV_fn | exact EqE_fn | exact EqV_gd | exact EqE_gd | refine gM_splitN ?_ ?_ | refine gM_split ?_ ?_ |  refine condM_splitDN ?_ ?_ | refine condM_splitD ?_ ?_ | refine condM_splitN ?_ ?_ | refine condM_split ?_ ?_ | refine condM_any ?_ ?_ | intro _) | (simp [*, idxI]))
                all_goals try first | exact inI64 (by omega) (by omega) | omega
              | some i =>
                have hj3 := (show stopsL rs W = Option.map _ (match findR rs (tailB (nth W k)) rs.length with | none => none | some i => _) from kj)
                rw [hf] at hj3
                have hj2 : restStops rs W (k + 1) (out ++ [⟨(i : Int), decide ((byteAt (nth W k) 0 : Int) = 45)⟩]) := by
                  unfold restStops
                  rw [hj3, show decide ((byteAt (nth W k) 0 : Int) = 45) = decide ((nth W k).extract 0 1 = minus1) from hsb.symm]
                  cases stopsL rs (W.drop (k + 1)) with
                  | none => rfl
                  | some l => simp [signB]; rfl
                have hil : (out ++ [⟨(i : Int), decide ((byteAt (nth W k) 0 : Int) = 45)⟩] : List Stop).length = k + 1 := by simp [ho]
                have kil := keep hil
                have hi0 : ¬ (i : Int) < 0 := by omega
                clear hj3 kj kN3 kS3 hsb hf hil
                repeat' (first | (with_reducible first | refine awp_seq ?_ | refine awp_blockS ?_ | refine awp_blockC ?_ | refine awp_blockR ?_ | refine awp_skip ?_ | refine awp_ret ?_ | refine awp_exit ?_ | refine awp_region ?_ | refine awp_regionD (id := 28) 10 mixed (by decide +kernel) ?_ | refine awp_condM ?_ | refine And.intro ?_ ?_ | apply gQ_merge | apply gE_merge | exact EqV_w | exact EqE_w | exact EqV_ptr | exact EqE_ptr | exact EqV_msl | exact EqE_msl | exact EqV_agg | exact EqE_agg | exact EqV_fn | exact EqE_fn | exact EqV_gd | exact EqE_gd | refine gM_splitN ?_ ?_ | refine gM_split ?_ ?_ |  refine condM_splitDN ?_ ?_ | refine condM_splitD ?_ ?_ | refine condM_splitN ?_ ?_ | refine condM_split ?_ ?_ | refine condM_any ?_ ?_ | intro _) | (simp [*, hlt, h0I, idxI, hi0]))
                all_goals try first | exact inI64 (by omega) (by omega) | omega
                all_goals (refine loopK_normal _ _ _ _ _ (k + 1, out ++ [⟨(i : Int), decide ((byteAt (nth W k) 0 : Int) = 45)⟩]) _ ?_ (by first | omega | (dsimp only; omega) | (simp; omega)) ?_; (· exact ⟨by simp only; omega, kil, hj2⟩); (refine le_gen [] ?_ ?_ <;> first | trivial | (simp [*]; done)))
          · have hke : k = W.length := by omega
            subst hke
            have hj2 : allStops rs W out := by
              unfold allStops
              rw [show stopsL rs W = _ from hj, List.drop_length]
              show some (out ++ []) = some out
              rw [List.append_nil]
            clear hj kN3 kS3 kW
            repeat' (first | (with_reducible first | refine awp_seq ?_ | refine awp_blockS ?_ | refine awp_blockC ?_ | refine awp_blockR ?_ | refine awp_skip ?_ | refine awp_ret ?_ | refine awp_exit ?_ | refine awp_region ?_ | refine awp_regionD (id := 28) 10 mixed (by decide +kernel) ?_ | refine awp_condM ?_ | refine And.intro ?_ ?_ | apply gQ_merge | apply gE_merge | exact EqV_w | exact EqE_w | exact EqV_ptr | exact EqE_ptr | exact EqV_msl | exact EqE_msl | exact EqV_agg | exact EqE_agg | exact EqV_fn | exact EqE_fn | exact EqV_gd | exact EqE_gd | refine gM_splitN ?_ ?_ | refine gM_split ?_ ?_ |  refine condM_splitDN ?_ ?_ | refine condM_splitD ?_ ?_ | refine condM_splitN ?_ ?_ | refine condM_split ?_ ?_ | refine condM_any ?_ ?_ | intro _) | (simp [*]))
            all_goals (refine finW_intro out ?_ ?_; (· exact ⟨hj2, ho⟩); (refine le_gen [] ?_ ?_ <;> first | trivial | (simp [*]; done)))
        · obtain ⟨hf1, hf2⟩ := hf
          obtain ⟨e1, e2⟩ := (show ∀ l, stopsL rs W = some l → V = l ∧ v = 0 from kS3) _ hf1
          subst e1 e2
          clear hf1 kN3 kS3 kW
          repeat' (first | (with_reducible first | refine awp_seq ?_ | refine awp_blockS ?_ | refine awp_blockC ?_ | refine awp_blockR ?_ | refine awp_skip ?_ | refine awp_ret ?_ | refine awp_exit ?_ | refine awp_region ?_ | refine awp_regionD (id := 28) 10 mixed (by decide +kernel) ?_ | refine awp_condM ?_ | refine And.intro ?_ ?_ | apply gQ_merge | apply gE_merge | exact EqV_w | exact EqE_w | exact EqV_ptr | exact EqE_ptr | exact EqV_msl | exact EqE_msl | exact EqV_agg | exact EqE_agg | exact EqV_fn | exact EqE_fn | exact EqV_gd | exact EqE_gd | refine gM_splitN ?_ ?_ | refine gM_split ?_ ?_ |  refine condM_splitDN ?_ ?_ | refine condM_splitD ?_ ?_ | refine condM_splitN ?_ ?_ | refine condM_split ?_ ?_ | refine condM_any ?_ ?_ | intro _) | (simp [*]))
          all_goals try first | exact inI64 (by omega) (by omega) | omega
theorem rParseStops_c (rs : List Rider) (hl : rs.length < 10000) (hnm : ∀ k, k < rs.length → (nth rs k).name.size < 1000000) (s : ByteArray) (hs : s.size < 1000) (hp : (pieces s sp1).length ≤ 1001) :
    RealCall Tryd.prog 9 [.sl rs.length (cRiders rs), .str s] (.tup [.sl (parseS rs s).1.length (cStops (parseS rs s).1), .int .i64 (parseS rs s).2]) true := by
  by_cases h6 : 6 < rs.length
  · have e : parseS rs s = ([], 8) := by unfold parseS; rw [if_pos h6]
    rw [e]
    have hI : (6 : Int) < (rs.length : Int) := by omega
    refine realcall_intro Tryd.func9 (by kernel_rfl) rfl (Nat.le_of_ble_eq_true (by kernel_rfl)) ?_
    simp only [Tryd.results9, Tryd.ntmps9]
    repeat' (first | (with_reducible first | refine awp_seq ?_ | refine awp_blockS ?_ | refine awp_blockC ?_ | refine awp_blockR ?_ | refine awp_skip ?_ | refine awp_ret ?_ | refine awp_exit ?_ | refine awp_region ?_ | refine awp_regionD (id := 28) 10 mixed (by decide +kernel) ?_ | refine awp_condM ?_ | refine And.intro ?_ ?_ | apply gQ_merge | apply gE_merge | exact EqV_w | exact EqE_w | exact EqV_ptr | exact EqE_ptr | exact EqV_msl | exact EqE_msl | exact EqV_agg | exact EqE_agg | exact EqV_fn | exact EqE_fn | exact EqV_gd | exact EqE_gd | refine gM_splitN ?_ ?_ | refine gM_split ?_ ?_ |  refine condM_splitDN ?_ ?_ | refine condM_splitD ?_ ?_ | refine condM_splitN ?_ ?_ | refine condM_split ?_ ?_ | refine condM_any ?_ ?_ | intro _) | (simp [*, hI]))
  · refine rParse_main rs (by omega) hnm s hs hp _ _ (fun h => ?_) (fun h h2 => ?_) (fun h h2 h3 => ?_) (fun h h2 h3 h4 => ?_) (fun h h2 h3 l h4 => ?_)
    · unfold parseS; rw [if_neg h6, if_pos h]; exact ⟨rfl, rfl⟩
    · unfold parseS; rw [if_neg h6, if_neg (by simpa using h), if_pos h2]; exact ⟨rfl, rfl⟩
    · unfold parseS; rw [if_neg h6, if_neg (by simpa using h), if_neg h2, if_pos h3]; exact ⟨rfl, rfl⟩
    · unfold parseS; rw [if_neg h6, if_neg (by simpa using h), if_neg h2, if_neg (by rw [h3]; decide), h4]; exact ⟨rfl, rfl⟩
    · unfold parseS; rw [if_neg h6, if_neg (by simpa using h), if_neg h2, if_neg (by rw [h3]; decide), h4]; exact ⟨rfl, rfl⟩
end Go.Proofs.YtiialcomflggcaaDoor

