/- Contracts of functions for this claim: lemmas alone. -/
import Derived.Test.YtiialcomflggcaaDoorP122
set_option linter.unusedSimpArgs false
set_option linter.unusedVariables false
namespace Go.Proofs.YtiialcomflggcaaDoor
open Go Go.Fi
set_option maxRecDepth 20000

def psA (S : List Stop) : List AV := (cStops S).map (AV.w false false)
@[simp] theorem psA_len (S : List Stop) : (psA S).length = S.length * 2 := by simp [psA]
@[simp] theorem psA_nil : psA [] = [] := rfl
@[simp] theorem psA_snoc (S : List Stop) (i : Int) (b : Bool) : psA S ++ [.w false false (.int .i64 i), .w false false (.bool b)] = psA (S ++ [⟨i, b⟩]) := by simp [psA, cStops, cStop]
@[simp] theorem psA_lt (S : List Stop) (n : Nat) : AV.lt.ltL n (psA S) = true := ltL_map n false false _
@[simp] theorem psA_self {D : List Nat} {h : Heap} {n n' : Nat} (S : List Stop) : cellsLe D h n n' (psA S) (psA S) = True := eq_true (cellsLe_w false false _)
@[simp high] theorem psA_frz (h : Heap) (d : Nat) (S : List Stop) : (psA S).mapM (frz h d) = some (cStops S) := mapM_frz h d false false _
@[simp high] theorem psA_fresh (h : Heap) (d : Nat) (S : List Stop) : (psA S).all (freshA h d) = true := all_flat h d false false _ (by induction S with | nil => rfl | cons s S ih => simpa [cStops, cStop, flatL] using ih)
theorem stopsL_drop (rs : List Rider) (W : List ByteArray) (k : Nat) (h : k < W.length) : stopsL rs (W.drop k) = match findR rs (tailB (nth W k)) rs.length with
    | none => none
    | some i => (stopsL rs (W.drop (k + 1))).map fun l => ⟨(i : Int), decide (signB (nth W k) = minus1)⟩ :: l := by
  rw [drop_nth W k h]; rfl
set_option maxHeartbeats 16000000 in
theorem parse_main (rs : List Rider) (hl : rs.length ≤ 6) (hnm : ∀ k, k < rs.length → (nth rs k).name.size < 1000000) (s : ByteArray) (hs : s.size < 1000) (hp : (pieces s sp1).length ≤ 1001) (V : List Stop) (v : Int)
    (hA : namesE rs rs.length 0 ≠ 0 → V = [] ∧ v = namesE rs rs.length 0) (hE : namesE rs rs.length 0 = 0 → s = ⟨#[]⟩ → V = [] ∧ v = 0)
    (hB : namesE rs rs.length 0 = 0 → s ≠ ⟨#[]⟩ → (pieces s sp1).any badW = true → V = [] ∧ v = 7)
    (hN : namesE rs rs.length 0 = 0 → s ≠ ⟨#[]⟩ → (pieces s sp1).any badW = false → stopsL rs (pieces s sp1) = none → V = [] ∧ v = 6)
    (hS : namesE rs rs.length 0 = 0 → s ≠ ⟨#[]⟩ → (pieces s sp1).any badW = false → ∀ l, stopsL rs (pieces s sp1) = some l → V = l ∧ v = 0) :
    RealCall Tryd.prog 8 [.sl rs.length (cRiders rs), .str s] (.tup [.sl V.length (cStops V), .int .i64 v]) true := by
  have kA := keep hA
  have kE := keep hE
  have kB := keep hB
  have kN := keep hN
  have kS := keep hS
  have kn := keep hnm
  clear hA hE hB hN hS hnm
  have hlI : ¬ (6 : Int) < (rs.length : Int) := by omega
  refine realcall_intro Tryd.func8 (by kernel_rfl) rfl (Nat.le_of_ble_eq_true (by kernel_rfl)) ?_
  simp only [Tryd.results8, Tryd.ntmps8]
  repeat' (first | (with_reducible first | refine awp_seq ?_ | refine awp_blockS ?_ | refine awp_blockC ?_ | refine awp_blockR ?_ | refine awp_skip ?_ | refine awp_ret ?_ | refine awp_exit ?_ | refine awp_region ?_ | refine awp_condM ?_ | refine And.intro ?_ ?_ | apply gQ_merge | apply gE_merge | exact EqV_w | exact EqE_w | exact EqV_ptr | exact EqE_ptr | exact EqV_msl | exact EqE_msl | exact EqV_agg | exact EqE_agg | exact EqV_fn | exact EqE_fn | exact EqV_gd | exact EqE_gd | refine gM_splitN ?_ ?_ | refine gM_split ?_ ?_ |  refine condM_splitDN ?_ ?_ | refine condM_splitD ?_ ?_ | refine condM_splitN ?_ ?_ | refine condM_split ?_ ?_ | refine condM_any ?_ ?_ | intro _) | (simp [*, hlI, lkV_S mapSI, mapSI, mcell_S]))
  refine awp_for4 1 (fun (k : Nat) => k ≤ rs.length ∧ namesE rs (rs.length - k) k = namesE rs rs.length 0) [1, 6, 22, 23] (fun (k : Nat) => [(24, .w false false (.int .i64 k))]) [] (fun (k : Nat) => [(0, mS (numM rs k))]) (fun (k : Nat) => rs.length - k) (fun (_u : Unit) => namesE rs rs.length 0 = 0) [1, 6] (fun (_u : Unit) => []) [] (fun (_u : Unit) => [(0, mS (numM rs rs.length))]) (0) ⟨Nat.zero_le _, rfl⟩ (le_gen [] (by simp [(show numM rs 0 = [] from rfl)]) (by simp [(show numM rs 0 = [] from rfl)])) (fun k hk => ?_) (fun _u hf => ?_)
  · obtain ⟨hk, hj⟩ := hk
    by_cases hlt : k < rs.length
    · rw [show rs.length - k = (rs.length - (k + 1)) + 1 by omega, namesE] at hj
      have c1 := isName_c (nth rs k).name ((show ∀ k, k < rs.length → (nth rs k).name.size < 1000000 from kn) k hlt)
      have hlk := numM_look rs (nth rs k).name k
      have hkn := findR_known rs (nth rs k).name k (by omega)
      have hnmE : nmE rs k = firstS [errUnless (nameB (nth rs k).name) 4, errUnless (!knownB (rs.take k) (nth rs k).name) 5] := rfl
      rw [hkn] at hnmE
      have u1 := unless_c (nameB (nth rs k).name) 4
      have u2 := unless_c (!(findR rs (nth rs k).name k).isSome) 5
      have c2 := first2_c (errUnless (nameB (nth rs k).name) 4) (errUnless (!(findR rs (nth rs k).name k).isSome) 5)
      rw [← hnmE] at c2
      clear hnmE hkn
      generalize errUnless (nameB (nth rs k).name) 4 = E1 at *
      generalize errUnless (!(findR rs (nth rs k).name k).isSome) 5 = E2 at *
      have kput := keep (show numM rs (k + 1) = putM (numM rs k) (nth rs k).name (k : Int) from rfl)
      generalize numM rs k = M at *
      by_cases hz : nmE rs k = 0
      · rw [if_pos hz] at hj
        rw [hz] at c2
        have kj := keep hj
        clear hj hz kA kE kB kN kS kn
        cases hf : findR rs (nth rs k).name k with
        | none =>
          rw [hf] at hlk u2
          have hlk2 : lookM M (nth rs k).name = none := hlk
          clear hlk hf
          repeat' (first | (with_reducible first | refine awp_seq ?_ | refine awp_blockS ?_ | refine awp_blockC ?_ | refine awp_blockR ?_ | refine awp_skip ?_ | refine awp_ret ?_ | refine awp_exit ?_ | refine awp_region ?_ | refine awp_condM ?_ | refine And.intro ?_ ?_ | apply gQ_merge | apply gE_merge | exact EqV_w | exact EqE_w | exact EqV_ptr | exact EqE_ptr | exact EqV_msl | exact EqE_msl | exact EqV_agg | exact EqE_agg | exact EqV_fn | exact EqE_fn | exact EqV_gd | exact EqE_gd | refine gM_splitN ?_ ?_ | refine gM_split ?_ ?_ |  refine condM_splitDN ?_ ?_ | refine condM_splitD ?_ ?_ | refine condM_splitN ?_ ?_ | refine condM_split ?_ ?_ | refine condM_any ?_ ?_ | refine cw (c1) ?_ | refine cw (u1) ?_ | refine cw (u2) ?_ | refine cw (c2) ?_ | intro _) | (simp [*, hlt, cRider, hlk2, lkV_S mapSI, mapSI]) | (refine cw_eq (c1) ?_ ?_; (· (simp [*]; done))) | (refine cw_eq (u1) ?_ ?_; (· (simp [*]; done))) | (refine cw_eq (u2) ?_ ?_; (· (simp [*]; done))) | (refine cw_eq (c2) ?_ ?_; (· (simp [*]; done))))
          all_goals try first | exact inI64 (by omega) (by omega) | omega
          all_goals (refine loopK_normal _ _ _ _ _ (k + 1) _ ?_ (by first | omega | (dsimp only; omega) | (simp; omega)) ?_; (· exact ⟨by omega, kj⟩); (refine le_gen [] ?_ ?_ <;> first | trivial | (simp [*, (show numM rs (k + 1) = _ from kput)]; done)))
        | some i =>
          rw [hf] at hlk u2
          have hlk2 : lookM M (nth rs k).name = some (i : Int) := hlk
          clear hlk hf
          repeat' (first | (with_reducible first | refine awp_seq ?_ | refine awp_blockS ?_ | refine awp_blockC ?_ | refine awp_blockR ?_ | refine awp_skip ?_ | refine awp_ret ?_ | refine awp_exit ?_ | refine awp_region ?_ | refine awp_condM ?_ | refine And.intro ?_ ?_ | apply gQ_merge | apply gE_merge | exact EqV_w | exact EqE_w | exact EqV_ptr | exact EqE_ptr | exact EqV_msl | exact EqE_msl | exact EqV_agg | exact EqE_agg | exact EqV_fn | exact EqE_fn | exact EqV_gd | exact EqE_gd | refine gM_splitN ?_ ?_ | refine gM_split ?_ ?_ |  refine condM_splitDN ?_ ?_ | refine condM_splitD ?_ ?_ | refine condM_splitN ?_ ?_ | refine condM_split ?_ ?_ | refine condM_any ?_ ?_ | refine cw (c1) ?_ | refine cw (u1) ?_ | refine cw (u2) ?_ | refine cw (c2) ?_ | intro _) | (simp [*, hlt, cRider, hlk2, lkV_S mapSI, mapSI]) | (refine cw_eq (c1) ?_ ?_; (· (simp [*]; done))) | (refine cw_eq (u1) ?_ ?_; (· (simp [*]; done))) | (refine cw_eq (u2) ?_ ?_; (· (simp [*]; done))) | (refine cw_eq (c2) ?_ ?_; (· (simp [*]; done))))
          all_goals try first | exact inI64 (by omega) (by omega) | omega
          all_goals (refine loopK_normal _ _ _ _ _ (k + 1) _ ?_ (by first | omega | (dsimp only; omega) | (simp; omega)) ?_; (· exact ⟨by omega, kj⟩); (refine le_gen [] ?_ ?_ <;> first | trivial | (simp [*, (show numM rs (k + 1) = _ from kput)]; done)))
      · rw [if_neg hz] at hj
        obtain ⟨e1, e2⟩ := (show namesE rs rs.length 0 ≠ 0 → _ from kA) (by rw [← hj]; exact hz)
        subst e1
        rw [← hj] at e2
        subst e2
        clear hj kA kE kB kN kS kn
        cases hf : findR rs (nth rs k).name k with
        | none =>
          rw [hf] at hlk u2
          have hlk2 : lookM M (nth rs k).name = none := hlk
          clear hlk hf
          repeat' (first | (with_reducible first | refine awp_seq ?_ | refine awp_blockS ?_ | refine awp_blockC ?_ | refine awp_blockR ?_ | refine awp_skip ?_ | refine awp_ret ?_ | refine awp_exit ?_ | refine awp_region ?_ | refine awp_condM ?_ | refine And.intro ?_ ?_ | apply gQ_merge | apply gE_merge | exact EqV_w | exact EqE_w | exact EqV_ptr | exact EqE_ptr | exact EqV_msl | exact EqE_msl | exact EqV_agg | exact EqE_agg | exact EqV_fn | exact EqE_fn | exact EqV_gd | exact EqE_gd | refine gM_splitN ?_ ?_ | refine gM_split ?_ ?_ |  refine condM_splitDN ?_ ?_ | refine condM_splitD ?_ ?_ | refine condM_splitN ?_ ?_ | refine condM_split ?_ ?_ | refine condM_any ?_ ?_ | refine cw (c1) ?_ | refine cw (u1) ?_ | refine cw (u2) ?_ | refine cw (c2) ?_ | intro _) | (simp [*, hlt, cRider, hlk2, lkV_S mapSI, mapSI, hz]) | (refine cw_eq (c1) ?_ ?_; (· (simp [*]; done))) | (refine cw_eq (u1) ?_ ?_; (· (simp [*]; done))) | (refine cw_eq (u2) ?_ ?_; (· (simp [*]; done))) | (refine cw_eq (c2) ?_ ?_; (· (simp [*]; done))))
          all_goals try first | exact inI64 (by omega) (by omega) | omega
        | some i =>
          rw [hf] at hlk u2
          have hlk2 : lookM M (nth rs k).name = some (i : Int) := hlk
          clear hlk hf
          repeat' (first | (with_reducible first | refine awp_seq ?_ | refine awp_blockS ?_ | refine awp_blockC ?_ | refine awp_blockR ?_ | refine awp_skip ?_ | refine awp_ret ?_ | refine awp_exit ?_ | refine awp_region ?_ | refine awp_condM ?_ | refine And.intro ?_ ?_ | apply gQ_merge | apply gE_merge | exact EqV_w | exact EqE_w | exact EqV_ptr | exact EqE_ptr | exact EqV_msl | exact EqE_msl | exact EqV_agg | exact EqE_agg | exact EqV_fn | exact EqE_fn | exact EqV_gd | exact EqE_gd | refine gM_splitN ?_ ?_ | refine gM_split ?_ ?_ |  refine condM_splitDN ?_ ?_ | refine condM_splitD ?_ ?_ | refine condM_splitN ?_ ?_ | refine condM_split ?_ ?_ | refine condM_any ?_ ?_ | refine cw (c1) ?_ | refine cw (u1) ?_ | refine cw (u2) ?_ | refine cw (c2) ?_ | intro _) | (simp [*, hlt, cRider, hlk2, lkV_S mapSI, mapSI, hz]) | (refine cw_eq (c1) ?_ ?_; (· (simp [*]; done))) | (refine cw_eq (u1) ?_ ?_; (· (simp [*]; done))) | (refine cw_eq (u2) ?_ ?_; (· (simp [*]; done))) | (refine cw_eq (c2) ?_ ?_; (· (simp [*]; done))))
          all_goals try first | exact inI64 (by omega) (by omega) | omega
    · have hke : k = rs.length := by omega
      subst hke
      rw [Nat.sub_self] at hj
      clear kA kE kB kN kS kn
      repeat' (first | (with_reducible first | refine awp_seq ?_ | refine awp_blockS ?_ | refine awp_blockC ?_ | refine awp_blockR ?_ | refine awp_skip ?_ | refine awp_ret ?_ | refine awp_exit ?_ | refine awp_region ?_ | refine awp_condM ?_ | refine And.intro ?_ ?_ | apply gQ_merge | apply gE_merge | exact EqV_w | exact EqE_w | exact EqV_ptr | exact EqE_ptr | exact EqV_msl | exact EqE_msl | exact EqV_agg | exact EqE_agg | exact EqV_fn | exact EqE_fn | exact EqV_gd | exact EqE_gd | refine gM_splitN ?_ ?_ | refine gM_split ?_ ?_ |  refine condM_splitDN ?_ ?_ | refine condM_splitD ?_ ?_ | refine condM_splitN ?_ ?_ | refine condM_split ?_ ?_ | refine condM_any ?_ ?_ | intro _) | (simp [*]))
      all_goals (refine finW_intro () ?_ ?_; (· exact hj.symm); (refine le_gen [] ?_ ?_ <;> first | trivial | (simp [*]; done)))
  · have hlook := fun x => numM_look rs x rs.length
    generalize numM rs rs.length = M at *
    by_cases he : s = ⟨#[]⟩
    · obtain ⟨e1, e2⟩ := (show namesE rs rs.length 0 = 0 → s = ⟨#[]⟩ → _ from kE) hf he
      subst e1 e2 he
      clear kA kE kB kN kS kn hf hlook
      repeat' (first | (with_reducible first | refine awp_seq ?_ | refine awp_blockS ?_ | refine awp_blockC ?_ | refine awp_blockR ?_ | refine awp_skip ?_ | refine awp_ret ?_ | refine awp_exit ?_ | refine awp_region ?_ | refine awp_condM ?_ | refine And.intro ?_ ?_ | apply gQ_merge | apply gE_merge | exact EqV_w | exact EqE_w | exact EqV_ptr | exact EqE_ptr | exact EqV_msl | exact EqE_msl | exact EqV_agg | exact EqE_agg | exact EqV_fn | exact EqE_fn | exact EqV_gd | exact EqE_gd | refine gM_splitN ?_ ?_ | refine gM_split ?_ ?_ |  refine condM_splitDN ?_ ?_ | refine condM_splitD ?_ ?_ | refine condM_splitN ?_ ?_ | refine condM_split ?_ ?_ | refine condM_any ?_ ?_ | intro _) | (simp [*]))
    · have c3 := splitT_c s sp1 (by omega) (by decide)
      have c4 := badText_c (pieces s sp1) (by omega)
      cases hb : (pieces s sp1).any badW with
      | true =>
        rw [hb] at c4
        obtain ⟨e1, e2⟩ := (show namesE rs rs.length 0 = 0 → s ≠ ⟨#[]⟩ → (pieces s sp1).any badW = true → _ from kB) hf he hb
        subst e1 e2
        clear kA kE kB kN kS kn hf hlook hb
        generalize pieces s sp1 = W at *
        repeat' (first | (with_reducible first | refine awp_seq ?_ | refine awp_blockS ?_ | refine awp_blockC ?_ | refine awp_blockR ?_ | refine awp_skip ?_ | refine awp_ret ?_ | refine awp_exit ?_ | refine awp_region ?_ | refine awp_condM ?_ | refine And.intro ?_ ?_ | apply gQ_merge | apply gE_merge | exact EqV_w | exact EqE_w | exact EqV_ptr | exact EqE_ptr | exact EqV_msl | exact EqE_msl | exact EqV_agg | exact EqE_agg | exact EqV_fn | exact EqE_fn | exact EqV_gd | exact EqE_gd | refine gM_splitN ?_ ?_ | refine gM_split ?_ ?_ |  refine condM_splitDN ?_ ?_ | refine condM_splitD ?_ ?_ | refine condM_splitN ?_ ?_ | refine condM_split ?_ ?_ | refine condM_any ?_ ?_ | refine cw (c3) ?_ | refine cw (c4) ?_ | intro _) | (simp [*, he]) | (refine cw_eq (c3) ?_ ?_; (· (simp [*]; done))) | (refine cw_eq (c4) ?_ ?_; (· (simp [*]; done))))
      | false =>
        rw [hb] at c4
        have kN2 := keep ((show namesE rs rs.length 0 = 0 → s ≠ ⟨#[]⟩ → (pieces s sp1).any badW = false → stopsL rs (pieces s sp1) = none → V = [] ∧ v = 6 from kN) hf he hb)
        have kS2 := keep ((show namesE rs rs.length 0 = 0 → s ≠ ⟨#[]⟩ → (pieces s sp1).any badW = false → ∀ l, stopsL rs (pieces s sp1) = some l → V = l ∧ v = 0 from kS) hf he hb)
        have hW := List.any_eq_false.1 hb
        clear kA kE kB kN kS kn hf hb
        generalize pieces s sp1 = W at *
        have kW := keep hW
        have kL := keep hlook
        clear hW hlook
        repeat' (first | (with_reducible first | refine awp_seq ?_ | refine awp_blockS ?_ | refine awp_blockC ?_ | refine awp_blockR ?_ | refine awp_skip ?_ | refine awp_ret ?_ | refine awp_exit ?_ | refine awp_region ?_ | refine awp_condM ?_ | refine And.intro ?_ ?_ | apply gQ_merge | apply gE_merge | exact EqV_w | exact EqE_w | exact EqV_ptr | exact EqE_ptr | exact EqV_msl | exact EqE_msl | exact EqV_agg | exact EqE_agg | exact EqV_fn | exact EqE_fn | exact EqV_gd | exact EqE_gd | refine gM_splitN ?_ ?_ | refine gM_split ?_ ?_ |  refine condM_splitDN ?_ ?_ | refine condM_splitD ?_ ?_ | refine condM_splitN ?_ ?_ | refine condM_split ?_ ?_ | refine condM_any ?_ ?_ | refine cw (c3) ?_ | refine cw (c4) ?_ | intro _) | (simp [*, he]) | (refine cw_eq (c3) ?_ ?_; (· (simp [*]; done))) | (refine cw_eq (c4) ?_ ?_; (· (simp [*]; done))))
        refine awp_for4 2 (fun (x : Nat × List Stop) => x.1 ≤ W.length ∧ x.2.length = x.1 ∧ stopsL rs W = (stopsL rs (W.drop x.1)).map (x.2 ++ ·)) [6, 59, 60] (fun (x : Nat × List Stop) => [(61, .w false false (.int .i64 x.1)), (13, .msl 1 (x.2.length * 2) 2 0 x.2.length)]) [0] (fun (x : Nat × List Stop) => [(1, psA x.2)]) (fun (x : Nat × List Stop) => W.length - x.1) (fun (T : List Stop) => stopsL rs W = some T ∧ T.length = W.length) [] (fun (T : List Stop) => [(13, .msl 1 (T.length * 2) 2 0 T.length)]) [] (fun (T : List Stop) => [(1, psA T)]) ((0, [])) ⟨Nat.zero_le _, rfl, by simp⟩ (le_gen [] (by simp) (by simp)) (fun x hk => ?_) (fun T hf => ?_)
        · obtain ⟨k, out⟩ := x
          obtain ⟨hk, ho, hj⟩ := hk
          simp only at hk ho hj
          by_cases hlt : k < W.length
          · have hw := (show ∀ a ∈ W, ¬ badW a = true from kW) _ (nth_mem hlt)
            have h2 : 2 ≤ (nth W k).size := by
              rcases Nat.lt_or_ge (nth W k).size 2 with h | h
              · exact absurd (by unfold badW; rw [decide_eq_true h]; rfl) hw
              · exact h
            have h1 : 1 ≤ (nth W k).size := by omega
            have h1I : (1 : Int) ≤ ((nth W k).size : Int) := by omega
            have hlk := (show ∀ x, lookM M x = (findR rs x rs.length).map fun i => (i : Int) from kL) (tailB (nth W k))
            rw [stopsL_drop rs W k hlt] at hj
            cases hf : findR rs (tailB (nth W k)) rs.length with
            | none =>
              rw [hf] at hj hlk
              obtain ⟨e1, e2⟩ := (show stopsL rs W = none → V = [] ∧ v = 6 from kN2) hj
              subst e1 e2
              have hlk2 : lookM M ((nth W k).extract 1 (nth W k).size) = none := hlk
              clear hj hlk hf kN2 kS2 kW kL hw c3 c4
              repeat' (first | (with_reducible first | refine awp_seq ?_ | refine awp_blockS ?_ | refine awp_blockC ?_ | refine awp_blockR ?_ | refine awp_skip ?_ | refine awp_ret ?_ | refine awp_exit ?_ | refine awp_region ?_ | refine awp_condM ?_ | refine And.intro ?_ ?_ | apply gQ_merge | apply gE_merge | exact EqV_w | exact EqE_w | exact EqV_ptr | exact EqE_ptr | exact EqV_msl | exact EqE_msl | exact EqV_agg | exact EqE_agg | exact EqV_fn | exact EqE_fn | exact EqV_gd | exact EqE_gd | refine gM_splitN ?_ ?_ | refine gM_split ?_ ?_ |  refine condM_splitDN ?_ ?_ | refine condM_splitD ?_ ?_ | refine condM_splitN ?_ ?_ | refine condM_split ?_ ?_ | refine condM_any ?_ ?_ | intro _) | (simp [*, hlt, hlk2, h1I, lkV_S mapSI, mapSI]))
              all_goals try first | exact inI64 (by omega) (by omega) | omega
            | some i =>
              rw [hf] at hj hlk
              have hlk2 : lookM M ((nth W k).extract 1 (nth W k).size) = some (i : Int) := hlk
              have hj2 : Keep (stopsL rs W = (stopsL rs (W.drop (k + 1))).map ((out ++ [⟨(i : Int), decide ((nth W k).extract 0 1 = ⟨#[45]⟩)⟩]) ++ ·)) := by
                unfold Keep
                rw [hj]
                cases stopsL rs (W.drop (k + 1)) with
                | none => rfl
                | some l => simp [signB]; rfl
              have hil : (out ++ [⟨(i : Int), decide ((nth W k).extract 0 1 = ⟨#[45]⟩)⟩] : List Stop).length = k + 1 := by simp [ho]
              have kil := keep hil
              clear hj hlk hf kN2 kS2 kW kL hw c3 c4 hil
              repeat' (first | (with_reducible first | refine awp_seq ?_ | refine awp_blockS ?_ | refine awp_blockC ?_ | refine awp_blockR ?_ | refine awp_skip ?_ | refine awp_ret ?_ | refine awp_exit ?_ | refine awp_region ?_ | refine awp_condM ?_ | refine And.intro ?_ ?_ | apply gQ_merge | apply gE_merge | exact EqV_w | exact EqE_w | exact EqV_ptr | exact EqE_ptr | exact EqV_msl | exact EqE_msl | exact EqV_agg | exact EqE_agg | exact EqV_fn | exact EqE_fn | exact EqV_gd | exact EqE_gd | refine gM_splitN ?_ ?_ | refine gM_split ?_ ?_ |  refine condM_splitDN ?_ ?_ | refine condM_splitD ?_ ?_ | refine condM_splitN ?_ ?_ | refine condM_split ?_ ?_ | refine condM_any ?_ ?_ | intro _) | (simp [*, hlt, hlk2, h1I, lkV_S mapSI, mapSI]))
              all_goals try first | exact inI64 (by omega) (by omega) | omega
              all_goals (refine loopK_normal _ _ _ _ _ (k + 1, out ++ [⟨(i : Int), decide ((nth W k).extract 0 1 = ⟨#[45]⟩)⟩]) _ ?_ (by first | omega | (dsimp only; omega) | (simp; omega)) ?_; (· exact ⟨by simp only; omega, kil, hj2⟩); (refine le_gen [] ?_ ?_ <;> first | trivial | (simp [*]; done)))
          · have hke : k = W.length := by omega
            subst hke
            have hj2 : Keep (stopsL rs W = some out) := by
              unfold Keep
              rw [hj, List.drop_length]
              show some (out ++ []) = some out
              rw [List.append_nil]
            clear hj kN2 kS2 kW kL c3 c4
            repeat' (first | (with_reducible first | refine awp_seq ?_ | refine awp_blockS ?_ | refine awp_blockC ?_ | refine awp_blockR ?_ | refine awp_skip ?_ | refine awp_ret ?_ | refine awp_exit ?_ | refine awp_region ?_ | refine awp_condM ?_ | refine And.intro ?_ ?_ | apply gQ_merge | apply gE_merge | exact EqV_w | exact EqE_w | exact EqV_ptr | exact EqE_ptr | exact EqV_msl | exact EqE_msl | exact EqV_agg | exact EqE_agg | exact EqV_fn | exact EqE_fn | exact EqV_gd | exact EqE_gd | refine gM_splitN ?_ ?_ | refine gM_split ?_ ?_ |  refine condM_splitDN ?_ ?_ | refine condM_splitD ?_ ?_ | refine condM_splitN ?_ ?_ | refine condM_split ?_ ?_ | refine condM_any ?_ ?_ | intro _) | (simp [*]))
            all_goals (refine finW_intro out ?_ ?_; (· exact ⟨hj2, ho⟩); (refine le_gen [] ?_ ?_ <;> first | trivial | (simp [*]; done)))
        · obtain ⟨hf1, hf2⟩ := hf
          obtain ⟨e1, e2⟩ := (show ∀ l, stopsL rs W = some l → V = l ∧ v = 0 from kS2) _ hf1
          subst e1 e2
          clear hf1 kN2 kS2 kW kL c3 c4
          repeat' (first | (with_reducible first | refine awp_seq ?_ | refine awp_blockS ?_ | refine awp_blockC ?_ | refine awp_blockR ?_ | refine awp_skip ?_ | refine awp_ret ?_ | refine awp_exit ?_ | refine awp_region ?_ | refine awp_condM ?_ | refine And.intro ?_ ?_ | apply gQ_merge | apply gE_merge | exact EqV_w | exact EqE_w | exact EqV_ptr | exact EqE_ptr | exact EqV_msl | exact EqE_msl | exact EqV_agg | exact EqE_agg | exact EqV_fn | exact EqE_fn | exact EqV_gd | exact EqE_gd | refine gM_splitN ?_ ?_ | refine gM_split ?_ ?_ |  refine condM_splitDN ?_ ?_ | refine condM_splitD ?_ ?_ | refine condM_splitN ?_ ?_ | refine condM_split ?_ ?_ | refine condM_any ?_ ?_ | intro _) | (simp [*]))
          all_goals try first | exact inI64 (by omega) (by omega) | omega
theorem parseStops_c (rs : List Rider) (hl : rs.length < 10000) (hnm : ∀ k, k < rs.length → (nth rs k).name.size < 1000000) (s : ByteArray) (hs : s.size < 1000) (hp : (pieces s sp1).length ≤ 1001) :
    RealCall Tryd.prog 8 [.sl rs.length (cRiders rs), .str s] (.tup [.sl (parseS rs s).1.length (cStops (parseS rs s).1), .int .i64 (parseS rs s).2]) true := by
  by_cases h6 : 6 < rs.length
  · have e : parseS rs s = ([], 8) := by unfold parseS; rw [if_pos h6]
    rw [e]
    have hI : (6 : Int) < (rs.length : Int) := by omega
    refine realcall_intro Tryd.func8 (by kernel_rfl) rfl (Nat.le_of_ble_eq_true (by kernel_rfl)) ?_
    simp only [Tryd.results8, Tryd.ntmps8]
    repeat' (first | (with_reducible first | refine awp_seq ?_ | refine awp_blockS ?_ | refine awp_blockC ?_ | refine awp_blockR ?_ | refine awp_skip ?_ | refine awp_ret ?_ | refine awp_exit ?_ | refine awp_region ?_ | refine awp_condM ?_ | refine And.intro ?_ ?_ | apply gQ_merge | apply gE_merge | exact EqV_w | exact EqE_w | exact EqV_ptr | exact EqE_ptr | exact EqV_msl | exact EqE_msl | exact EqV_agg | exact EqE_agg | exact EqV_fn | exact EqE_fn | exact EqV_gd | exact EqE_gd | refine gM_splitN ?_ ?_ | refine gM_split ?_ ?_ |  refine condM_splitDN ?_ ?_ | refine condM_splitD ?_ ?_ | refine condM_splitN ?_ ?_ | refine condM_split ?_ ?_ | refine condM_any ?_ ?_ | intro _) | (simp [*, hI]))
  · refine parse_main rs (by omega) hnm s hs hp _ _ (fun h => ?_) (fun h h2 => ?_) (fun h h2 h3 => ?_) (fun h h2 h3 h4 => ?_) (fun h h2 h3 l h4 => ?_)
    · unfold parseS; rw [if_neg h6, if_pos h]; exact ⟨rfl, rfl⟩
    · unfold parseS; rw [if_neg h6, if_neg (by simpa using h), if_pos h2]; exact ⟨rfl, rfl⟩
    · unfold parseS; rw [if_neg h6, if_neg (by simpa using h), if_neg h2, if_pos h3]; exact ⟨rfl, rfl⟩
    · unfold parseS; rw [if_neg h6, if_neg (by simpa using h), if_neg h2, if_neg (by rw [h3]; decide), h4]; exact ⟨rfl, rfl⟩
    · unfold parseS; rw [if_neg h6, if_neg (by simpa using h), if_neg h2, if_neg (by rw [h3]; decide), h4]; exact ⟨rfl, rfl⟩
end Go.Proofs.YtiialcomflggcaaDoor

