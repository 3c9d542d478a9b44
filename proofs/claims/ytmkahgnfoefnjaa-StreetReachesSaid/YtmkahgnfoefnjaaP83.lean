/- Contracts of functions for this claim: lemmas alone. -/
import Derived.Test.YtmkahgnfoefnjaaP81
set_option linter.unusedSimpArgs false
set_option linter.unusedVariables false
namespace Go.Proofs.Ytmkahgnfoefnjaa
open Go Go.Fi
set_option maxRecDepth 20000

theorem islands_bad (n : Net) (h : NetIn n) (he : (netS n).2.2 ≠ 0) : RealCall Try.prog 8 [aNet n] (.tup [.sl 0 [], .int .i64 (netS n).2.2]) true := by
  have co := open_c n h
  generalize (netS n).2.2 = ne at *
  clear h
  unfold aNet cNet at *
  refine realcall_intro Try.func8 (by kernel_rfl) rfl (Nat.le_of_ble_eq_true (by kernel_rfl)) ?_
  simp only [Try.results8, Try.ntmps8]
  repeat' (first | (with_reducible first | refine awp_seq ?_ | refine awp_blockS ?_ | refine awp_blockC ?_ | refine awp_blockR ?_ | refine awp_skip ?_ | refine awp_ret ?_ | refine awp_exit ?_ | refine awp_region ?_ | refine awp_regionD (id := 9) 5 mixed (by decide +kernel) ?_ | refine awp_regionS (id := 17) [0, 1, 2, 3, 4, 5, 6, 7] [8, 9, 10] [[.all], [.all], [], [], [], [], [], []] [[.all], [], [.slot 6]] mixed (by decide +kernel) ?_ | refine awp_condM ?_ | refine And.intro ?_ ?_ | refine gE_splitN ?_ ?_ | refine gE_split ?_ ?_ | refine gQ_splitN ?_ ?_ | refine gQ_split ?_ ?_ | refine gM_splitN ?_ ?_ | refine gM_split ?_ ?_ | refine condM_splitDN ?_ ?_ | refine condM_splitD ?_ ?_ | refine condM_splitN ?_ ?_ | refine condM_split ?_ ?_ | refine condM_any ?_ ?_ | refine cw (co) ?_ | intro _) | (simp [*, he]))
@[simp] theorem iA_one (v : Int) : iA [v] = [.w false false (.int .i64 v)] := rfl
@[simp] theorem islI_zero (m : Nat → Nat → Bool) : islI m 0 = [] := rfl
@[simp] theorem iNN_nil : iNN [] = [] := rfl
theorem iNN_snoc (M : List (List Nat)) (k : Nat) : iNN (M ++ [[k]]) = iNN M ++ [[(k : Int)]] := by simp [iNN, iN]
theorem iNN_set (M : List (List Nat)) (a k : Nat) (h : a < M.length) : iNN (M.set a (nth M a ++ [k])) = (iNN M).set a (nth (iNN M) a ++ [(k : Int)]) := by
  rw [iNN_nth _ _ h]
  unfold iNN
  rw [List.map_set]
  congr 1
  simp [iN]
theorem isl_row (m : Nat → Nat → Bool) (i j : Nat) (hj : j < (islI m i).length) : (nth (iNN (islI m i)) j).length ≤ i := by
  rw [iNN_nth _ _ hj, iN_len]
  have hk' : j < (repsI m i).length := by unfold islI at hj; rwa [List.length_map] at hj
  have e : nth (islI m i) j = clsI m i (nth (repsI m i) j) := by
    unfold islI
    simp [nth, List.getD_eq_getElem?_getD, List.getElem?_eq_getElem hk']
  rw [e]; exact cls_len i _
theorem look_c (n : Net) (hnp : n.places.length < 1000) (k : Nat) (hk : k < n.places.length) : RealCall Try.prog 28 [.sl (islI (mtl n) k).length (cRows (iNN (islI (mtl n) k))), .fn 29 [.ip [.sl n.places.length (bRows (rws n n.places.length))] 0, .ip [.int .i64 k] 0]] (.int .i64 (atF (mtl n) k (islI (mtl n) k) 0)) true := by
  have hh : ∀ j, j < (islI (mtl n) k).length → ∃ a r, a < k ∧ nth (islI (mtl n) k) j = a :: r := fun j hj => isl_heads (mtl_eqv n) (Nat.le_of_lt hk) hj
  have hl := isl_len (mu := mtl n) k
  generalize islI (mtl n) k = M at *
  rw [← idx_atF (mtl n) k M (fun j hj => by obtain ⟨a, r, _, e⟩ := hh j hj; rw [e]; simp)]
  have := rowIdx_c (iNN M) 29 [.ip [.sl n.places.length (bRows (rws n n.places.length))] 0, .ip [.int .i64 k] 0] (fun r => mtl n k (nth r 0).toNat) (by rw [iNN_len]; omega) (fun j hj => by
    have hj' : j < M.length := by rwa [iNN_len] at hj
    obtain ⟨a, r, ha, e⟩ := hh j hj'
    have e1 : nth (iNN M) j = iN (a :: r) := by rw [iNN_nth _ _ hj', e]
    have e0 : nth (nth (iNN M) j) 0 = (a : Int) := by rw [e1]; rfl
    have := islFn_c (rws n n.places.length) k a (nth (iNN M) j) (by rw [e1]; simp) e0 (by simp; omega) (by simpa using hk) (by simp; omega) (fun i hi => by
      rw [rws_len] at hi
      rw [rws_nth _ _ _ hi, reachL_len, rws_len])
    rw [rws_len, rws_nth _ _ _ hk, rws_nth _ _ a (by omega)] at this
    rw [e0]
    exact this)
  rw [iNN_len] at this
  exact this
set_option maxHeartbeats 16000000 in
theorem islands_ok (n : Net) (h : NetIn n) (he : (netS n).2.2 = 0) : RealCall Try.prog 8 [aNet n] (.tup [.sl (islI (mtl n) n.places.length).length (cRows (iNN (islI (mtl n) n.places.length))), .int .i64 0]) true := by
  have ok := net_ok h he
  have hnp := h.np
  have co := open_c n h
  rw [he] at co
  have kc := keep (fun (a : Nat) (la : a < n.places.length) => reached_c n ok a la (-1))
  have ke := keep (mtl_eqv n)
  clear h ok he
  unfold aNet cNet at *
  refine realcall_intro Try.func8 (by kernel_rfl) rfl (Nat.le_of_ble_eq_true (by kernel_rfl)) ?_
  simp only [Try.results8, Try.ntmps8]
  repeat' (first | (with_reducible first | refine awp_seq ?_ | refine awp_blockS ?_ | refine awp_blockC ?_ | refine awp_blockR ?_ | refine awp_skip ?_ | refine awp_ret ?_ | refine awp_exit ?_ | refine awp_region ?_ | refine awp_regionD (id := 9) 5 mixed (by decide +kernel) ?_ | refine awp_regionS (id := 17) [0, 1, 2, 3, 4, 5, 6, 7] [8, 9, 10] [[.all], [.all], [], [], [], [], [], []] [[.all], [], [.slot 6]] mixed (by decide +kernel) ?_ | refine awp_condM ?_ | refine And.intro ?_ ?_ | refine gE_splitN ?_ ?_ | refine gE_split ?_ ?_ | refine gQ_splitN ?_ ?_ | refine gQ_split ?_ ?_ | refine gM_splitN ?_ ?_ | refine gM_split ?_ ?_ | refine condM_splitDN ?_ ?_ | refine condM_splitD ?_ ?_ | refine condM_splitN ?_ ?_ | refine condM_split ?_ ?_ | refine condM_any ?_ ?_ | refine cw (co) ?_ | intro _) | (simp [*]))
  clear co
  refine awp_for4 4 (fun (k : Nat) => k ≤ n.places.length) [1, 4, 6, 7, 21] (fun (k : Nat) => [(22, .w false false (.int .i64 k))]) [0, 1] (fun (k : Nat) => [(3, bbA (rws n k)), (2, [.msl 3 k 1 0 k])]) (fun (k : Nat) => n.places.length - k) (fun (_u : Unit) => True) [1, 6, 7] (fun (_u : Unit) => []) [0, 1] (fun (_u : Unit) => [(3, bbA (rws n n.places.length)), (2, [.msl 3 n.places.length 1 0 n.places.length])]) (0) (Nat.zero_le _) (le_gen [] (by simp) (by simp)) (fun k hk => ?_) (fun _u hf => ?_)
  · by_cases hlt : k < n.places.length
    · have c1 := kc k hlt
      have hl := reachL_len n (-1) k
      have ks := keep (rws_succ n k)
      repeat' (first | (with_reducible first | refine awp_seq ?_ | refine awp_blockS ?_ | refine awp_blockC ?_ | refine awp_blockR ?_ | refine awp_skip ?_ | refine awp_ret ?_ | refine awp_exit ?_ | refine awp_region ?_ | refine awp_regionD (id := 9) 5 mixed (by decide +kernel) ?_ | refine awp_regionS (id := 17) [0, 1, 2, 3, 4, 5, 6, 7] [8, 9, 10] [[.all], [.all], [], [], [], [], [], []] [[.all], [], [.slot 6]] mixed (by decide +kernel) ?_ | refine awp_condM ?_ | refine And.intro ?_ ?_ | apply gQ_merge | apply gE_merge | exact EqV_w | exact EqE_w | exact EqV_ptr | exact EqE_ptr | exact EqV_msl | exact EqE_msl | exact EqV_agg | exact EqE_agg | exact EqV_fn | exact EqE_fn | exact EqV_gd | exact EqE_gd | refine gM_splitN ?_ ?_ | refine gM_split ?_ ?_ |  refine condM_splitDN ?_ ?_ | refine condM_splitD ?_ ?_ | refine condM_splitN ?_ ?_ | refine condM_split ?_ ?_ | refine condM_any ?_ ?_ | refine cw (c1) ?_ | intro _) | (simp [*, hlt, hl]) | (refine cw_eq (c1) ?_ ?_; (· (simp [*]; done))))
      all_goals first
        | exact inI64 (by omega) (by omega)
        | omega
        | skip
      all_goals (refine loopK_normal _ _ _ _ _ (k + 1) _ ?_ (by first | omega | (dsimp only; omega) | (simp; omega)) ?_; (· omega); (refine le_gen [] ?_ ?_ <;> first | trivial | (simp [*, show rws n (k + 1) = _ from ks, bbA_snoc, hl]; done)))
    · have hke : k = n.places.length := by omega
      subst hke
      repeat' (first | (with_reducible first | refine awp_seq ?_ | refine awp_blockS ?_ | refine awp_blockC ?_ | refine awp_blockR ?_ | refine awp_skip ?_ | refine awp_ret ?_ | refine awp_exit ?_ | refine awp_region ?_ | refine awp_regionD (id := 9) 5 mixed (by decide +kernel) ?_ | refine awp_regionS (id := 17) [0, 1, 2, 3, 4, 5, 6, 7] [8, 9, 10] [[.all], [.all], [], [], [], [], [], []] [[.all], [], [.slot 6]] mixed (by decide +kernel) ?_ | refine awp_condM ?_ | refine And.intro ?_ ?_ | apply gQ_merge | apply gE_merge | exact EqV_w | exact EqE_w | exact EqV_ptr | exact EqE_ptr | exact EqV_msl | exact EqE_msl | exact EqV_agg | exact EqE_agg | exact EqV_fn | exact EqE_fn | exact EqV_gd | exact EqE_gd | refine gM_splitN ?_ ?_ | refine gM_split ?_ ?_ |  refine condM_splitDN ?_ ?_ | refine condM_splitD ?_ ?_ | refine condM_splitN ?_ ?_ | refine condM_split ?_ ?_ | refine condM_any ?_ ?_ | intro _) | (simp [*]))
      all_goals (refine finW_intro () ?_ ?_; (· trivial); (refine le_gen [] ?_ ?_ <;> first | trivial | (simp [*]; done)))
  · repeat' (first | (with_reducible first | refine awp_seq ?_ | refine awp_blockS ?_ | refine awp_blockC ?_ | refine awp_blockR ?_ | refine awp_skip ?_ | refine awp_ret ?_ | refine awp_exit ?_ | refine awp_region ?_ | refine awp_regionD (id := 9) 5 mixed (by decide +kernel) ?_ | refine awp_regionS (id := 17) [0, 1, 2, 3, 4, 5, 6, 7] [8, 9, 10] [[.all], [.all], [], [], [], [], [], []] [[.all], [], [.slot 6]] mixed (by decide +kernel) ?_ | refine awp_condM ?_ | refine And.intro ?_ ?_ | apply gQ_merge | apply gE_merge | exact EqV_w | exact EqE_w | exact EqV_ptr | exact EqE_ptr | exact EqV_msl | exact EqE_msl | exact EqV_agg | exact EqE_agg | exact EqV_fn | exact EqE_fn | exact EqV_gd | exact EqE_gd | refine gM_splitN ?_ ?_ | refine gM_split ?_ ?_ |  refine condM_splitDN ?_ ?_ | refine condM_splitD ?_ ?_ | refine condM_splitN ?_ ?_ | refine condM_split ?_ ?_ | refine condM_any ?_ ?_ | intro _) | (simp [*]))
    have kB := keep hnp
    refine awp_for5 (fun (k : Nat) => (islI (mtl n) k).length * 2 + 5) (fun (_u : Unit) => (islI (mtl n) n.places.length).length * 2 + 5) (fun (k : Nat) => k ≤ n.places.length) [7, 34] (fun (k : Nat) => [(35, .w false false (.int .i64 k)), (6, .msl 4 (islI (mtl n) k).length 1 0 (islI (mtl n) k).length)]) [0, 1, 2, 3] (fun (k : Nat) => (4, msS 2 6 ((iNN (islI (mtl n) k)).map List.length)) :: addS 2 [] 6 ((iNN (islI (mtl n) k)).map iA)) (fun (k : Nat) => n.places.length - k) (fun (_u : Unit) => True) [] (fun (_u : Unit) => [(6, .msl 4 (islI (mtl n) n.places.length).length 1 0 (islI (mtl n) n.places.length).length)]) [] (fun (_u : Unit) => (4, msS 2 6 ((iNN (islI (mtl n) n.places.length)).map List.length)) :: addS 2 [] 6 ((iNN (islI (mtl n) n.places.length)).map iA)) (0) (Nat.zero_le _) (le_gen [] (by simp) (by simp)) (fun k hk => ?_) (fun _u hf => ?_)
    · by_cases hlt : k < n.places.length
      · have hlI : (k : Int) < (n.places.length : Int) := by omega
        have ci := look_c n hnp k hlt
        have hq := isl_len (mu := mtl n) k
        by_cases hr : repB (mtl n) k = true
        · have kn := keep (isl_new ke hlt hr)
          rw [isl_miss ke hlt hr] at ci
          clear hr
          generalize islI (mtl n) k = M at *
          have hM : (iNN M).length = M.length := iNN_len M
          have fz : ∀ (H : Heap) (d b : Nat), 0 < d → famInS 2 H b ((iNN M).map iA) → (msS 2 b ((iNN M).map List.length)).mapM (frz H d) = some (cRows (iNN M)) := fun H d b hd hf => rowsS_frz hd hf
          repeat' (first | (with_reducible first | refine awp_seq ?_ | refine awp_blockS ?_ | refine awp_blockC ?_ | refine awp_blockR ?_ | refine awp_skip ?_ | refine awp_ret ?_ | refine awp_exit ?_ | refine awp_region ?_ | refine awp_regionD (id := 9) 5 mixed (by decide +kernel) ?_ | refine awp_regionS (id := 17) [0, 1, 2, 3, 4, 5, 6, 7] [8, 9, 10] [[.all], [.all], [], [], [], [], [], []] [[.all], [], [.slot 6]] mixed (by decide +kernel) ?_ | refine awp_condM ?_ | refine And.intro ?_ ?_ | apply gQ_merge | apply gE_merge | exact EqV_w | exact EqE_w | exact EqV_ptr | exact EqE_ptr | exact EqV_msl | exact EqE_msl | exact EqV_agg | exact EqE_agg | exact EqV_fn | exact EqE_fn | exact EqV_gd | exact EqE_gd | refine gM_splitN ?_ ?_ | refine gM_split ?_ ?_ |  refine condM_splitDN ?_ ?_ | refine condM_splitD ?_ ?_ | refine condM_splitN ?_ ?_ | refine condM_split ?_ ?_ | refine condM_any ?_ ?_ | refine cw (ci) ?_ | intro _) | (simp [*, hlt, hlI]) | (refine cw_eq (ci) ?_ ?_; (· (simp [*]; done))))
          all_goals try first | exact inI64 (by omega) (by omega) | omega
          all_goals (refine loopK_normal _ _ _ _ _ (k + 1) _ ?_ (by first | omega | (dsimp only; omega) | (simp; omega)) ?_; (· omega); (refine le_gen [] ?_ ?_ <;> first | trivial | (simp [*, show islI (mtl n) (k + 1) = _ from kn, iNN_snoc, addS_snoc, msS_snoc, Nat.add_mul]; done)))
        · obtain ⟨a, ha, e1, e2⟩ := isl_old ke hlt hr
          have kn := keep e2
          rw [e1] at ci
          have hrl := isl_row (mtl n) k a ha
          clear hr e1 e2
          generalize islI (mtl n) k = M at *
          have hM : (iNN M).length = M.length := iNN_len M
          have fz : ∀ (H : Heap) (d b : Nat), 0 < d → famInS 2 H b ((iNN M).map iA) → (msS 2 b ((iNN M).map List.length)).mapM (frz H d) = some (cRows (iNN M)) := fun H d b hd hf => rowsS_frz hd hf
          have n1 : ¬ M.length * 2 = a * 2 := by omega
          have n2 : ¬ M.length * 2 = a * 2 + 1 := by omega
          repeat' (first | (with_reducible first | refine awp_seq ?_ | refine awp_blockS ?_ | refine awp_blockC ?_ | refine awp_blockR ?_ | refine awp_skip ?_ | refine awp_ret ?_ | refine awp_exit ?_ | refine awp_region ?_ | refine awp_regionD (id := 9) 5 mixed (by decide +kernel) ?_ | refine awp_regionS (id := 17) [0, 1, 2, 3, 4, 5, 6, 7] [8, 9, 10] [[.all], [.all], [], [], [], [], [], []] [[.all], [], [.slot 6]] mixed (by decide +kernel) ?_ | refine awp_condM ?_ | refine And.intro ?_ ?_ | apply gQ_merge | apply gE_merge | exact EqV_w | exact EqE_w | exact EqV_ptr | exact EqE_ptr | exact EqV_msl | exact EqE_msl | exact EqV_agg | exact EqE_agg | exact EqV_fn | exact EqE_fn | exact EqV_gd | exact EqE_gd | refine gM_splitN ?_ ?_ | refine gM_split ?_ ?_ |  refine condM_splitDN ?_ ?_ | refine condM_splitD ?_ ?_ | refine condM_splitN ?_ ?_ | refine condM_split ?_ ?_ | refine condM_any ?_ ?_ | refine cw (ci) ?_ | intro _) | (simp [*, hlt, hlI, ha, n1, n2]) | (refine cw_eq (ci) ?_ ?_; (· (simp [*]; done))))
          all_goals try first | exact inI64 (by omega) (by omega) | omega
          all_goals (refine loopK_normal _ _ _ _ _ (k + 1) _ ?_ (by first | omega | (dsimp only; omega) | (simp; omega)) ?_; (· omega); (refine le_gen [] ?_ ?_ <;> first | trivial | (simp [*, show islI (mtl n) (k + 1) = _ from kn, iNN_set]; done)))
      · have hke : k = n.places.length := by omega
        subst hke
        repeat' (first | (with_reducible first | refine awp_seq ?_ | refine awp_blockS ?_ | refine awp_blockC ?_ | refine awp_blockR ?_ | refine awp_skip ?_ | refine awp_ret ?_ | refine awp_exit ?_ | refine awp_region ?_ | refine awp_regionD (id := 9) 5 mixed (by decide +kernel) ?_ | refine awp_regionS (id := 17) [0, 1, 2, 3, 4, 5, 6, 7] [8, 9, 10] [[.all], [.all], [], [], [], [], [], []] [[.all], [], [.slot 6]] mixed (by decide +kernel) ?_ | refine awp_condM ?_ | refine And.intro ?_ ?_ | apply gQ_merge | apply gE_merge | exact EqV_w | exact EqE_w | exact EqV_ptr | exact EqE_ptr | exact EqV_msl | exact EqE_msl | exact EqV_agg | exact EqE_agg | exact EqV_fn | exact EqE_fn | exact EqV_gd | exact EqE_gd | refine gM_splitN ?_ ?_ | refine gM_split ?_ ?_ |  refine condM_splitDN ?_ ?_ | refine condM_splitD ?_ ?_ | refine condM_splitN ?_ ?_ | refine condM_split ?_ ?_ | refine condM_any ?_ ?_ | intro _) | (simp [*]))
        all_goals (refine finW_intro () ?_ ?_; (· trivial); (refine le_gen [] ?_ ?_ <;> first | trivial | (simp [*]; done)))
    · have hq := isl_len (mu := mtl n) n.places.length
      generalize islI (mtl n) n.places.length = M at *
      have hM : (iNN M).length = M.length := iNN_len M
      have fz : ∀ (H : Heap) (d b : Nat), 0 < d → famInS 2 H b ((iNN M).map iA) → (msS 2 b ((iNN M).map List.length)).mapM (frz H d) = some (cRows (iNN M)) := fun H d b hd hf => rowsS_frz hd hf
      repeat' (first | (with_reducible first | refine awp_seq ?_ | refine awp_blockS ?_ | refine awp_blockC ?_ | refine awp_blockR ?_ | refine awp_skip ?_ | refine awp_ret ?_ | refine awp_exit ?_ | refine awp_region ?_ | refine awp_regionD (id := 9) 5 mixed (by decide +kernel) ?_ | refine awp_regionS (id := 17) [0, 1, 2, 3, 4, 5, 6, 7] [8, 9, 10] [[.all], [.all], [], [], [], [], [], []] [[.all], [], [.slot 6]] mixed (by decide +kernel) ?_ | refine awp_condM ?_ | refine And.intro ?_ ?_ | apply gQ_merge | apply gE_merge | exact EqV_w | exact EqE_w | exact EqV_ptr | exact EqE_ptr | exact EqV_msl | exact EqE_msl | exact EqV_agg | exact EqE_agg | exact EqV_fn | exact EqE_fn | exact EqV_gd | exact EqE_gd | refine gM_splitN ?_ ?_ | refine gM_split ?_ ?_ |  refine condM_splitDN ?_ ?_ | refine condM_splitD ?_ ?_ | refine condM_splitN ?_ ?_ | refine condM_split ?_ ?_ | refine condM_any ?_ ?_ | intro _) | (simp [*]))
      rename_i x hx
      have h2 := rowsS_fresh (h := (4, msS 2 6 ((iNN M).map List.length)) :: addS 2 [] 6 ((iNN M).map iA)) (d := 3) (b := 6) (s := 2) (M := iNN M) (by simp)
      rw [List.all_eq_true] at h2
      exact h2 x hx
end Go.Proofs.Ytmkahgnfoefnjaa
namespace Go.Proofs.Ytmkahgnfoefnjaa
open Go Go.Fi
set_option maxRecDepth 20000

/-! ### the reference's islands -/
def ownL (p : Nat → Bool) (l : List Nat) (t : Nat) : List Nat := (l.take t).filter p
@[simp] theorem ownL_zero (p : Nat → Bool) (l : List Nat) : ownL p l 0 = [] := rfl
theorem nthN_mem (l : List Nat) (t : Nat) (h : t < l.length) : nth l t ∈ l := by
  simp [nth, List.getD_eq_getElem?_getD, List.getElem?_eq_getElem h]
theorem ownL_yes {p : Nat → Bool} {l : List Nat} {t : Nat} (h : t < l.length) (hp : p (nth l t) = true) : ownL p l (t + 1) = ownL p l t ++ [nth l t] := by
  unfold ownL
  rw [take_succ_nth l t h, List.filter_append, List.filter_cons_of_pos hp]; rfl
theorem ownL_no {p : Nat → Bool} {l : List Nat} {t : Nat} (h : t < l.length) (hp : p (nth l t) = false) : ownL p l (t + 1) = ownL p l t := by
  unfold ownL
  rw [take_succ_nth l t h, List.filter_append, List.filter_cons_of_neg (by rw [hp]; decide)]; simp
theorem ownL_len (p : Nat → Bool) (l : List Nat) (t : Nat) : (ownL p l t).length ≤ l.length := by
  unfold ownL
  have := List.length_filter_le p (l.take t)
  rw [List.length_take] at this
  omega
theorem iN_snoc (l : List Nat) (x : Nat) : iN (l ++ [x]) = iN l ++ [(x : Int)] := by simp [iN]
@[simp] theorem iN_nil : iN [] = [] := rfl
def rIdx (L : List Bool) (N : Nat) : List Nat := (List.range N).filter (nth L)
theorem idxL_iN (L : List Bool) : ∀ N, idxL L N = iN (rIdx L N)
  | 0 => by simp [rIdx]
  | N + 1 => by
    have ih := idxL_iN L N
    unfold rIdx at *
    rw [List.range_succ, List.filter_append]
    simp only [idxL]
    by_cases h : nth L N = true
    · rw [if_pos h, List.filter_cons_of_pos h, ih]
      exact (iN_snoc _ N).symm
    · rw [if_neg h, List.filter_cons_of_neg h, ih]
      simp
theorem rIdx_lt {L : List Bool} {N t : Nat} (h : t < (rIdx L N).length) : nth (rIdx L N) t < N := by
  have := nthN_mem _ t h
  unfold rIdx at this
  rw [List.mem_filter, List.mem_range] at this
  exact this.1
theorem rIdx_len (L : List Bool) (N : Nat) : (rIdx L N).length ≤ N := by
  unfold rIdx
  have := List.length_filter_le (nth L) (List.range N)
  rwa [List.length_range] at this
theorem own_all (n : Net) (k : Nat) : ownL (fun x => nth (reachL n (-1) x) k) (rIdx (reachL n (-1) k) n.places.length) (rIdx (reachL n (-1) k) n.places.length).length = clsI (mtl n) n.places.length k := by
  unfold ownL rIdx clsI
  rw [List.take_length, List.filter_filter]
  refine List.filter_congr (fun x _ => ?_)
  unfold mtl
  rw [Bool.and_comm]
theorem cls_pos {m : Nat → Nat → Bool} {N k : Nat} (he : Eqv m N) (hk : k < N) : 0 < (clsI m N k).length := by
  refine List.length_pos_of_mem (a := k) ?_
  unfold clsI
  rw [List.mem_filter, List.mem_range]
  exact ⟨hk, he.refl k hk⟩
@[simp] theorem islR_zero (m : Nat → Nat → Bool) (N : Nat) : islR m N 0 = [] := rfl
theorem islR_yes {m : Nat → Nat → Bool} {N k : Nat} (h : nth (clsI m N k) 0 = k) : islR m N (k + 1) = islR m N k ++ [clsI m N k] := by
  show islR m N k ++ _ = _
  rw [if_pos h]
theorem islR_no {m : Nat → Nat → Bool} {N k : Nat} (h : ¬ nth (clsI m N k) 0 = k) : islR m N (k + 1) = islR m N k := by
  show islR m N k ++ _ = _
  rw [if_neg h, List.append_nil]
theorem islR_len (m : Nat → Nat → Bool) (N : Nat) : ∀ k, (islR m N k).length ≤ k
  | 0 => Nat.le_refl _
  | k + 1 => by
    have := islR_len m N k
    show (islR m N k ++ _).length ≤ _
    rw [List.length_append]
    split
    · simp; omega
    · simp; omega
theorem iNN_app (M : List (List Nat)) (c : List Nat) : iNN (M ++ [c]) = iNN M ++ [iN c] := by simp [iNN]
@[simp] theorem iA_snocT {D : List Nat} {h : Heap} {n n' : Nat} (l : List Int) (v : Int) : cellsLe D h n n' (iA l ++ [.w true false (.int .i64 v)]) (iA (l ++ [v])) = True := by
  rw [← iA_snoc]
  exact eq_true (cellsLe_append (of_eq_true (iA_self l)) (by simp))
set_option maxHeartbeats 16000000 in
theorem rIslands_c (n : Net) (ok : NetOk n) : RealCall Try.prog 12 [aNet n] (.sl (islI (mtl n) n.places.length).length (cRows (iNN (islI (mtl n) n.places.length)))) true := by
  have he := mtl_eqv n
  rw [← islR_isl he]
  have hnp := ok.np
  have kr := keep (fun (a : Nat) (la : a < n.places.length) => rReaches_c n ok a la)
  have kh := keep (fun (x k : Nat) (hk : k < n.places.length) => by
    have hil := idxL_len (reachL n (-1) x) n.places.length
    have ch := has_c (idxL (reachL n (-1) x) n.places.length) (by omega) k
    rw [idxL_has] at ch
    have e : decide (k < n.places.length ∧ nth (reachL n (-1) x) k = true) = nth (reachL n (-1) x) k := by
      cases nth (reachL n (-1) x) k <;> simp [hk]
    rw [e] at ch
    exact ch)
  have ke := keep he
  clear he ok
  unfold aNet cNet at *
  refine realcall_intro Try.func12 (by kernel_rfl) rfl (Nat.le_of_ble_eq_true (by kernel_rfl)) ?_
  simp only [Try.results12, Try.ntmps12]
  repeat' (first | (with_reducible first | refine awp_seq ?_ | refine awp_blockS ?_ | refine awp_blockC ?_ | refine awp_blockR ?_ | refine awp_skip ?_ | refine awp_ret ?_ | refine awp_exit ?_ | refine awp_region ?_ | refine awp_regionD (id := 10) 8 mixed (by decide +kernel) ?_ | refine awp_condM ?_ | refine And.intro ?_ ?_ | apply gQ_merge | apply gE_merge | exact EqV_w | exact EqE_w | exact EqV_ptr | exact EqE_ptr | exact EqV_msl | exact EqE_msl | exact EqV_agg | exact EqE_agg | exact EqV_fn | exact EqE_fn | exact EqV_gd | exact EqE_gd | refine gM_splitN ?_ ?_ | refine gM_split ?_ ?_ |  refine condM_splitDN ?_ ?_ | refine condM_splitD ?_ ?_ | refine condM_splitN ?_ ?_ | refine condM_split ?_ ?_ | refine condM_any ?_ ?_ | intro _) | (simp [*]))
  refine awp_for5 (fun (k : Nat) => (islR (mtl n) n.places.length k).length + 2) (fun (_u : Unit) => (islR (mtl n) n.places.length n.places.length).length + 2) (fun (k : Nat) => k ≤ n.places.length) [1] (fun (k : Nat) => [(4, .w false false (.int .i64 k)), (3, .msl 1 (islR (mtl n) n.places.length k).length 1 0 (islR (mtl n) n.places.length k).length)]) [0] (fun (k : Nat) => (1, ms1 2 ((iNN (islR (mtl n) n.places.length k)).map List.length)) :: addE [] 2 ((iNN (islR (mtl n) n.places.length k)).map iA)) (fun (k : Nat) => n.places.length - k) (fun (_u : Unit) => True) [] (fun (_u : Unit) => [(3, .msl 1 (islR (mtl n) n.places.length n.places.length).length 1 0 (islR (mtl n) n.places.length n.places.length).length)]) [] (fun (_u : Unit) => (1, ms1 2 ((iNN (islR (mtl n) n.places.length n.places.length)).map List.length)) :: addE [] 2 ((iNN (islR (mtl n) n.places.length n.places.length)).map iA)) (0) (Nat.zero_le _) (le_gen [] (by simp) (by simp)) (fun k hk => ?_) (fun _u hf => ?_)
  · by_cases hlt : k < n.places.length
    · have hlI : (k : Int) < (n.places.length : Int) := by omega
      have c0 := kr k hlt
      rw [idxL_iN] at c0
      have hq := islR_len (mtl n) n.places.length k
      have kown := keep (own_all n k)
      have kF := keep (fun (t : Nat) (h : t < (rIdx (reachL n (-1) k) n.places.length).length) => rIdx_lt h)
      have hFl := rIdx_len (reachL n (-1) k) n.places.length
      have ky := keep (fun h => islR_yes (m := mtl n) (N := n.places.length) (k := k) h)
      have kn := keep (fun h => islR_no (m := mtl n) (N := n.places.length) (k := k) h)
      have hcp := cls_pos ke hlt
      have hcl := cls_len (mu := mtl n) n.places.length k
      generalize islR (mtl n) n.places.length k = R at *
      generalize rIdx (reachL n (-1) k) n.places.length = F at *
      generalize clsI (mtl n) n.places.length k = C at *
      have hR : (iNN R).length = R.length := iNN_len R
      repeat' (first | (with_reducible first | refine awp_seq ?_ | refine awp_blockS ?_ | refine awp_blockC ?_ | refine awp_blockR ?_ | refine awp_skip ?_ | refine awp_ret ?_ | refine awp_exit ?_ | refine awp_region ?_ | refine awp_regionD (id := 10) 8 mixed (by decide +kernel) ?_ | refine awp_condM ?_ | refine And.intro ?_ ?_ | apply gQ_merge | apply gE_merge | exact EqV_w | exact EqE_w | exact EqV_ptr | exact EqE_ptr | exact EqV_msl | exact EqE_msl | exact EqV_agg | exact EqE_agg | exact EqV_fn | exact EqE_fn | exact EqV_gd | exact EqE_gd | refine gM_splitN ?_ ?_ | refine gM_split ?_ ?_ |  refine condM_splitDN ?_ ?_ | refine condM_splitD ?_ ?_ | refine condM_splitN ?_ ?_ | refine condM_split ?_ ?_ | refine condM_any ?_ ?_ | refine cw (c0) ?_ | intro _) | (simp [*, hlt, hlI]) | (refine cw_eq (c0) ?_ ?_; (· (simp [*]; done))))
      clear c0
      refine awp_for5 (fun (t : Nat) => R.length + 3) (fun (_u : Unit) => R.length + 3) (fun (t : Nat) => t ≤ F.length) [1, 3, 4, 6] (fun (t : Nat) => [(7, .w false false (.int .i64 t)), (5, .msl (R.length + 2) (iN (ownL (fun x => nth (reachL n (-1) x) k) F t)).length 1 0 (iN (ownL (fun x => nth (reachL n (-1) x) k) F t)).length)]) [0] (fun (t : Nat) => (R.length + 2, iA (iN (ownL (fun x => nth (reachL n (-1) x) k) F t))) :: (1, ms1 2 ((iNN R).map List.length)) :: addE [] 2 ((iNN R).map iA)) (fun (t : Nat) => F.length - t) (fun (_u : Unit) => True) [1, 3, 4] (fun (_u : Unit) => [(5, .msl (R.length + 2) (iN C).length 1 0 (iN C).length)]) [0] (fun (_u : Unit) => (R.length + 2, iA (iN C)) :: (1, ms1 2 ((iNN R).map List.length)) :: addE [] 2 ((iNN R).map iA)) (0) (Nat.zero_le _) (le_gen [] (by simp) (by simp)) (fun t hk => ?_) (fun _u hf => ?_)
      · rename_i ht
        by_cases hlt2 : t < F.length
        · have hlI2 : (t : Int) < (F.length : Int) := by omega
          have hx := kF t hlt2
          have e0 := iN_nth F t hlt2
          have c1 := kr (nth F t) hx
          have c2 := kh (nth F t) k hlt
          have hol := ownL_len (fun x => nth (reachL n (-1) x) k) F t
          generalize idxL (reachL n (-1) (nth F t)) n.places.length = I at *
          cases hv : nth (reachL n (-1) (nth F t)) k with
          | true =>
            have ke2 := keep (ownL_yes (p := fun x => nth (reachL n (-1) x) k) hlt2 hv)
            rw [hv] at c2
            clear hv
            generalize ownL (fun x => nth (reachL n (-1) x) k) F t = O at *
            repeat' (first | (with_reducible first | refine awp_seq ?_ | refine awp_blockS ?_ | refine awp_blockC ?_ | refine awp_blockR ?_ | refine awp_skip ?_ | refine awp_ret ?_ | refine awp_exit ?_ | refine awp_region ?_ | refine awp_regionD (id := 10) 8 mixed (by decide +kernel) ?_ | refine awp_condM ?_ | refine And.intro ?_ ?_ | apply gQ_merge | apply gE_merge | exact EqV_w | exact EqE_w | exact EqV_ptr | exact EqE_ptr | exact EqV_msl | exact EqE_msl | exact EqV_agg | exact EqE_agg | exact EqV_fn | exact EqE_fn | exact EqV_gd | exact EqE_gd | refine gM_splitN ?_ ?_ | refine gM_split ?_ ?_ |  refine condM_splitDN ?_ ?_ | refine condM_splitD ?_ ?_ | refine condM_splitN ?_ ?_ | refine condM_split ?_ ?_ | refine condM_any ?_ ?_ | refine cw (c1) ?_ | refine cw (c2) ?_ | intro _) | (simp [*, hlt2, hlI2, e0]) | (refine cw_eq (c1) ?_ ?_; (· (simp [*]; done))) | (refine cw_eq (c2) ?_ ?_; (· (simp [*]; done))))
            all_goals try first | exact inI64 (by omega) (by omega) | omega
            all_goals (refine loopK_normal _ _ _ _ _ (t + 1) _ ?_ (by first | omega | (dsimp only; omega) | (simp; omega)) ?_; (· omega); (refine le_gen [] ?_ ?_ <;> first | trivial | (simp [*, show ownL (fun x => nth (reachL n (-1) x) k) F (t + 1) = _ from ke2, iN_snoc]; done)))
          | false =>
            have ke2 := keep (ownL_no (p := fun x => nth (reachL n (-1) x) k) hlt2 hv)
            rw [hv] at c2
            clear hv
            generalize ownL (fun x => nth (reachL n (-1) x) k) F t = O at *
            repeat' (first | (with_reducible first | refine awp_seq ?_ | refine awp_blockS ?_ | refine awp_blockC ?_ | refine awp_blockR ?_ | refine awp_skip ?_ | refine awp_ret ?_ | refine awp_exit ?_ | refine awp_region ?_ | refine awp_regionD (id := 10) 8 mixed (by decide +kernel) ?_ | refine awp_condM ?_ | refine And.intro ?_ ?_ | apply gQ_merge | apply gE_merge | exact EqV_w | exact EqE_w | exact EqV_ptr | exact EqE_ptr | exact EqV_msl | exact EqE_msl | exact EqV_agg | exact EqE_agg | exact EqV_fn | exact EqE_fn | exact EqV_gd | exact EqE_gd | refine gM_splitN ?_ ?_ | refine gM_split ?_ ?_ |  refine condM_splitDN ?_ ?_ | refine condM_splitD ?_ ?_ | refine condM_splitN ?_ ?_ | refine condM_split ?_ ?_ | refine condM_any ?_ ?_ | refine cw (c1) ?_ | refine cw (c2) ?_ | intro _) | (simp [*, hlt2, hlI2, e0]) | (refine cw_eq (c1) ?_ ?_; (· (simp [*]; done))) | (refine cw_eq (c2) ?_ ?_; (· (simp [*]; done))))
            all_goals try first | exact inI64 (by omega) (by omega) | omega
            all_goals (refine loopK_normal _ _ _ _ _ (t + 1) _ ?_ (by first | omega | (dsimp only; omega) | (simp; omega)) ?_; (· omega); (refine le_gen [] ?_ ?_ <;> first | trivial | (simp [*, show ownL (fun x => nth (reachL n (-1) x) k) F (t + 1) = _ from ke2]; done)))
        · have hke : t = F.length := by omega
          subst hke
          repeat' (first | (with_reducible first | refine awp_seq ?_ | refine awp_blockS ?_ | refine awp_blockC ?_ | refine awp_blockR ?_ | refine awp_skip ?_ | refine awp_ret ?_ | refine awp_exit ?_ | refine awp_region ?_ | refine awp_regionD (id := 10) 8 mixed (by decide +kernel) ?_ | refine awp_condM ?_ | refine And.intro ?_ ?_ | apply gQ_merge | apply gE_merge | exact EqV_w | exact EqE_w | exact EqV_ptr | exact EqE_ptr | exact EqV_msl | exact EqE_msl | exact EqV_agg | exact EqE_agg | exact EqV_fn | exact EqE_fn | exact EqV_gd | exact EqE_gd | refine gM_splitN ?_ ?_ | refine gM_split ?_ ?_ |  refine condM_splitDN ?_ ?_ | refine condM_splitD ?_ ?_ | refine condM_splitN ?_ ?_ | refine condM_split ?_ ?_ | refine condM_any ?_ ?_ | intro _) | (simp [*]))
          all_goals (refine finW_intro () ?_ ?_; (· trivial); (refine le_gen [] ?_ ?_ <;> first | trivial | (simp [*, show ownL (fun x => nth (reachL n (-1) x) k) F F.length = C from kown]; done)))
      · have e0 := iN_nth C 0 hcp
        have e1 : (iN C).length = C.length := iN_len C
        by_cases hv : nth C 0 = k
        · have ke2 := keep (ky hv)
          have hvI : ((nth C 0 : Nat) : Int) = (k : Int) := by rw [hv]
          repeat' (first | (with_reducible first | refine awp_seq ?_ | refine awp_blockS ?_ | refine awp_blockC ?_ | refine awp_blockR ?_ | refine awp_skip ?_ | refine awp_ret ?_ | refine awp_exit ?_ | refine awp_region ?_ | refine awp_regionD (id := 10) 8 mixed (by decide +kernel) ?_ | refine awp_condM ?_ | refine And.intro ?_ ?_ | apply gQ_merge | apply gE_merge | exact EqV_w | exact EqE_w | exact EqV_ptr | exact EqE_ptr | exact EqV_msl | exact EqE_msl | exact EqV_agg | exact EqE_agg | exact EqV_fn | exact EqE_fn | exact EqV_gd | exact EqE_gd | refine gM_splitN ?_ ?_ | refine gM_split ?_ ?_ |  refine condM_splitDN ?_ ?_ | refine condM_splitD ?_ ?_ | refine condM_splitN ?_ ?_ | refine condM_split ?_ ?_ | refine condM_any ?_ ?_ | intro _) | (simp [*, hlt, hlI, hcp, e0, hvI]))
          all_goals try first | exact inI64 (by omega) (by omega) | omega
          all_goals (refine loopK_normal _ _ _ _ _ (k + 1) _ ?_ (by first | omega | (dsimp only; omega) | (simp; omega)) ?_; (· omega); (refine le_gen [] ?_ ?_ <;> first | trivial | (simp [*, show islR (mtl n) n.places.length (k + 1) = _ from ke2, iNN_app, addE_snoc, ms1_snoc]; done)))
        · have ke2 := keep (kn hv)
          have hvI : ¬ ((nth C 0 : Nat) : Int) = (k : Int) := by omega
          repeat' (first | (with_reducible first | refine awp_seq ?_ | refine awp_blockS ?_ | refine awp_blockC ?_ | refine awp_blockR ?_ | refine awp_skip ?_ | refine awp_ret ?_ | refine awp_exit ?_ | refine awp_region ?_ | refine awp_regionD (id := 10) 8 mixed (by decide +kernel) ?_ | refine awp_condM ?_ | refine And.intro ?_ ?_ | apply gQ_merge | apply gE_merge | exact EqV_w | exact EqE_w | exact EqV_ptr | exact EqE_ptr | exact EqV_msl | exact EqE_msl | exact EqV_agg | exact EqE_agg | exact EqV_fn | exact EqE_fn | exact EqV_gd | exact EqE_gd | refine gM_splitN ?_ ?_ | refine gM_split ?_ ?_ |  refine condM_splitDN ?_ ?_ | refine condM_splitD ?_ ?_ | refine condM_splitN ?_ ?_ | refine condM_split ?_ ?_ | refine condM_any ?_ ?_ | intro _) | (simp [*, hlt, hlI, hcp, e0, hvI]))
          all_goals try first | exact inI64 (by omega) (by omega) | omega
          all_goals (refine loopK_normal _ _ _ _ _ (k + 1) _ ?_ (by first | omega | (dsimp only; omega) | (simp; omega)) ?_; (· omega); (refine le_gen [] ?_ ?_ <;> first | trivial | (simp [*, show islR (mtl n) n.places.length (k + 1) = _ from ke2]; done)))
    · have hke : k = n.places.length := by omega
      subst hke
      repeat' (first | (with_reducible first | refine awp_seq ?_ | refine awp_blockS ?_ | refine awp_blockC ?_ | refine awp_blockR ?_ | refine awp_skip ?_ | refine awp_ret ?_ | refine awp_exit ?_ | refine awp_region ?_ | refine awp_regionD (id := 10) 8 mixed (by decide +kernel) ?_ | refine awp_condM ?_ | refine And.intro ?_ ?_ | apply gQ_merge | apply gE_merge | exact EqV_w | exact EqE_w | exact EqV_ptr | exact EqE_ptr | exact EqV_msl | exact EqE_msl | exact EqV_agg | exact EqE_agg | exact EqV_fn | exact EqE_fn | exact EqV_gd | exact EqE_gd | refine gM_splitN ?_ ?_ | refine gM_split ?_ ?_ |  refine condM_splitDN ?_ ?_ | refine condM_splitD ?_ ?_ | refine condM_splitN ?_ ?_ | refine condM_split ?_ ?_ | refine condM_any ?_ ?_ | intro _) | (simp [*]))
      all_goals (refine finW_intro () ?_ ?_; (· trivial); (refine le_gen [] ?_ ?_ <;> first | trivial | (simp [*]; done)))
  · have hq := islR_len (mtl n) n.places.length n.places.length
    generalize islR (mtl n) n.places.length n.places.length = M at *
    have hM : (iNN M).length = M.length := iNN_len M
    have fz : ∀ (H : Heap) (d b : Nat), 0 < d → famIn H b ((iNN M).map iA) → (ms1 b ((iNN M).map List.length)).mapM (frz H d) = some (cRows (iNN M)) := fun H d b hd hf => rows1_frz hd hf
    repeat' (first | (with_reducible first | refine awp_seq ?_ | refine awp_blockS ?_ | refine awp_blockC ?_ | refine awp_blockR ?_ | refine awp_skip ?_ | refine awp_ret ?_ | refine awp_exit ?_ | refine awp_region ?_ | refine awp_regionD (id := 10) 8 mixed (by decide +kernel) ?_ | refine awp_condM ?_ | refine And.intro ?_ ?_ | apply gQ_merge | apply gE_merge | exact EqV_w | exact EqE_w | exact EqV_ptr | exact EqE_ptr | exact EqV_msl | exact EqE_msl | exact EqV_agg | exact EqE_agg | exact EqV_fn | exact EqE_fn | exact EqV_gd | exact EqE_gd | refine gM_splitN ?_ ?_ | refine gM_split ?_ ?_ |  refine condM_splitDN ?_ ?_ | refine condM_splitD ?_ ?_ | refine condM_splitN ?_ ?_ | refine condM_split ?_ ?_ | refine condM_any ?_ ?_ | intro _) | (simp [*]))
    rename_i x hx
    have h2 := rows1_fresh (h := (1, ms1 2 ((iNN M).map List.length)) :: addE [] 2 ((iNN M).map iA)) (d := 4) (b := 2) (M := iNN M) (by simp)
    rw [List.all_eq_true] at h2
    exact h2 x hx
end Go.Proofs.Ytmkahgnfoefnjaa
