/- Contracts of functions for this claim: lemmas alone. -/
import Derived.Test.YtiialcomflggcaaDoorP125
import Derived.Test.YtiialcomflggcaaDoorP33
import Derived.Test.YtiialcomflggcaaDoorP34
set_option linter.unusedSimpArgs false
set_option linter.unusedVariables false
namespace Go.Proofs.YtiialcomflggcaaDoor
open Go Go.Fi
set_option maxRecDepth 20000

/-! ### ShareTexts: the text of stops, and the stops with any text; those of a right plan are read back -/
theorem pieces_len (s : ByteArray) : (pieces s sp1).length ≤ s.size + 1 := by
  rw [cut_pieces]
  have := cutCl_len 32 s s.size
  rw [List.length_append]; simp; omega
theorem small_names {m : Grid} {p : Plan} (h : smallB m p = true) : ∀ k, k < p.riders.length → (nth p.riders k).name.size ≤ 20 := by
  unfold smallB at h
  simp only [Bool.and_eq_true, List.all_eq_true, decide_eq_true_eq] at h
  exact fun k hk => h.2 _ (nth_mem hk)
theorem wordsF_short {p : Plan} (h : ∀ k, k < p.riders.length → (nth p.riders k).name.size ≤ 20) : ∀ (l : List Stop) (x : ByteArray), x ∈ wordsF p l → x.size ≤ 21
  | [], x, hx => by cases hx
  | s :: ss, x, hx => by
    unfold wordsF at hx
    split at hx
    · rename_i hw
      rcases List.mem_cons.1 hx with rfl | hx
      · obtain ⟨j, hj, hjl⟩ := winB_nat hw
        have := h j hjl
        unfold wordOf riderOf
        rw [hj, Int.toNat_natCast, ByteArray.size_append]
        have e : (if s.out = true then (⟨#[45]⟩ : ByteArray) else ⟨#[43]⟩).size = 1 := by split <;> rfl
        omega
      · exact wordsF_short h ss x hx
    · exact wordsF_short h ss x hx
theorem format_short {m : Grid} {p : Plan} (h : smallB m p = true) (hs : p.stops.length ≤ 16) : (formatS p).size ≤ 352 := by
  have h1 := joinB_size sp1 21 (wordsF p p.stops) (wordsF_short (small_names h) _)
  have h2 := wordsF_len p p.stops
  have h3 : (wordsF p p.stops).length * (21 + sp1.size) ≤ 16 * (21 + sp1.size) := Nat.mul_le_mul (by omega) (Nat.le_refl _)
  have h4 : sp1.size = 1 := rfl
  rw [h4] at h1 h3
  show (joinB (wordsF p p.stops) sp1).size ≤ 352
  omega
theorem stopsL_len (rs : List Rider) : ∀ (W : List ByteArray) (l : List Stop), stopsL rs W = some l → l.length = W.length
  | [], l, h => by injection h with h; subst h; rfl
  | w :: ws, l, h => by
    unfold stopsL at h
    cases hf : findR rs (tailB w) rs.length with
    | none => rw [hf] at h; cases h
    | some k =>
      rw [hf] at h
      dsimp only at h
      cases hl : stopsL rs ws with
      | none => rw [hl] at h; cases h
      | some r =>
        rw [hl] at h
        injection h with h
        subst h
        simp [stopsL_len rs ws r hl]
theorem parseS_len (rs : List Rider) (s : ByteArray) : (parseS rs s).1.length ≤ (pieces s sp1).length := by
  unfold parseS
  split
  · simp
  · split
    · simp
    · split
      · simp
      · split
        · simp
        · cases hl : stopsL rs (pieces s sp1) with
          | none => simp
          | some l => have := stopsL_len rs _ l hl; simp; omega
set_option maxHeartbeats 8000000 in
theorem shareTexts_c (m : Grid) (p : Plan) (s : ByteArray) : RealCall Tryd.prog 3 [aMap m, aPlan p, .str s] (.bool true) true := by
  have c0 := awake_c
  have c1 := small_c m p
  cases hs : smallB m p with
  | false =>
    rw [hs] at c1
    unfold aMap aPlan cPlan at *
    refine realcall_intro Tryd.func3 (by kernel_rfl) rfl (Nat.le_of_ble_eq_true (by kernel_rfl)) ?_
    simp only [Tryd.results3, Tryd.ntmps3]
    repeat' (first | (with_reducible first | refine awp_seq ?_ | refine awp_blockS ?_ | refine awp_blockC ?_ | refine awp_blockR ?_ | refine awp_skip ?_ | refine awp_ret ?_ | refine awp_exit ?_ | refine awp_region ?_ | refine awp_condM ?_ | refine And.intro ?_ ?_ | apply gQ_merge | apply gE_merge | exact EqV_w | exact EqE_w | exact EqV_ptr | exact EqE_ptr | exact EqV_msl | exact EqE_msl | exact EqV_agg | exact EqE_agg | exact EqV_fn | exact EqE_fn | exact EqV_gd | exact EqE_gd | refine gM_splitN ?_ ?_ | refine gM_split ?_ ?_ |  refine condM_splitDN ?_ ?_ | refine condM_splitD ?_ ?_ | refine condM_splitN ?_ ?_ | refine condM_split ?_ ?_ | refine condM_any ?_ ?_ | refine cw (c0) ?_ | refine cw (c1) ?_ | intro _) | (simp [*]) | (refine cw_eq (c0) ?_ ?_; (· (simp [*]; done))) | (refine cw_eq (c1) ?_ ?_; (· (simp [*]; done))))
  | true =>
    rw [hs] at c1
    by_cases h200 : 200 < s.size
    · have hI : (200 : Int) < (s.size : Int) := by omega
      unfold aMap aPlan cPlan at *
      refine realcall_intro Tryd.func3 (by kernel_rfl) rfl (Nat.le_of_ble_eq_true (by kernel_rfl)) ?_
      simp only [Tryd.results3, Tryd.ntmps3]
      repeat' (first | (with_reducible first | refine awp_seq ?_ | refine awp_blockS ?_ | refine awp_blockC ?_ | refine awp_blockR ?_ | refine awp_skip ?_ | refine awp_ret ?_ | refine awp_exit ?_ | refine awp_region ?_ | refine awp_condM ?_ | refine And.intro ?_ ?_ | apply gQ_merge | apply gE_merge | exact EqV_w | exact EqE_w | exact EqV_ptr | exact EqE_ptr | exact EqV_msl | exact EqE_msl | exact EqV_agg | exact EqE_agg | exact EqV_fn | exact EqE_fn | exact EqV_gd | exact EqE_gd | refine gM_splitN ?_ ?_ | refine gM_split ?_ ?_ |  refine condM_splitDN ?_ ?_ | refine condM_splitD ?_ ?_ | refine condM_splitN ?_ ?_ | refine condM_split ?_ ?_ | refine condM_any ?_ ?_ | refine cw (c0) ?_ | refine cw (c1) ?_ | intro _) | (simp [*, hI]) | (refine cw_eq (c0) ?_ ?_; (· (simp [*]; done))) | (refine cw_eq (c1) ?_ ?_; (· (simp [*]; done))))
    · have hI : ¬ (200 : Int) < (s.size : Int) := by omega
      obtain ⟨hm, hp, hst⟩ := small_in hs
      have hT := format_short hs hst
      have c3 := copyPlan_c p hp
      have c4 := format_c p hp
      have c5 := rFormat_c p hp
      have hpl := pieces_len s
      have hplT := pieces_len (formatS p)
      have c6 := parseStops_c p.riders hp.riders hp.names s (by omega) (by omega)
      have c7 := rParseStops_c p.riders hp.riders hp.names s (by omega) (by omega)
      have c8 := parseStops_c p.riders hp.riders hp.names (formatS p) (by omega) (by omega)
      have hl1 := parseS_len p.riders s
      have hl2 := parseS_len p.riders (formatS p)
      have c9 := sameStops_c (parseS p.riders s).1 (parseS p.riders s).1 (by omega)
      rw [decide_eq_true rfl] at c9
      have c10 := rPlanErr_c m hm p hp
      by_cases h : (checkS m p).2 = 0
      · have ok := (checkS_ok.1 h).2
        rw [parse_format ok] at c8
        have c11 := sameStops_c p.stops p.stops (by omega)
        rw [decide_eq_true rfl] at c11
        rw [h] at c10
        clear h ok hm hp hs hl1 hl2 hpl hplT hT
        generalize formatS p = T at *
        generalize parseS p.riders s = ps at *
        obtain ⟨p1, p2⟩ := ps
        dsimp only at c6 c7 c8 c9
        unfold aMap aPlan cPlan at *
        refine realcall_intro Tryd.func3 (by kernel_rfl) rfl (Nat.le_of_ble_eq_true (by kernel_rfl)) ?_
        simp only [Tryd.results3, Tryd.ntmps3]
        repeat' (first | (with_reducible first | refine awp_seq ?_ | refine awp_blockS ?_ | refine awp_blockC ?_ | refine awp_blockR ?_ | refine awp_skip ?_ | refine awp_ret ?_ | refine awp_exit ?_ | refine awp_region ?_ | refine awp_condM ?_ | refine And.intro ?_ ?_ | apply gQ_merge | apply gE_merge | exact EqV_w | exact EqE_w | exact EqV_ptr | exact EqE_ptr | exact EqV_msl | exact EqE_msl | exact EqV_agg | exact EqE_agg | exact EqV_fn | exact EqE_fn | exact EqV_gd | exact EqE_gd | refine gM_splitN ?_ ?_ | refine gM_split ?_ ?_ |  refine condM_splitDN ?_ ?_ | refine condM_splitD ?_ ?_ | refine condM_splitN ?_ ?_ | refine condM_split ?_ ?_ | refine condM_any ?_ ?_ | refine cw (c0) ?_ | refine cw (c1) ?_ | refine cw (c3) ?_ | refine cw (c4) ?_ | refine cw (c5) ?_ | refine cw (c6) ?_ | refine cw (c7) ?_ | refine cw (c8) ?_ | refine cw (c9) ?_ | refine cw (c10) ?_ | refine cw (c11) ?_ | intro _) | (simp [*, hI]) | (refine cw_eq (c0) ?_ ?_; (· (simp [*]; done))) | (refine cw_eq (c1) ?_ ?_; (· (simp [*]; done))) | (refine cw_eq (c3) ?_ ?_; (· (simp [*]; done))) | (refine cw_eq (c4) ?_ ?_; (· (simp [*]; done))) | (refine cw_eq (c5) ?_ ?_; (· (simp [*]; done))) | (refine cw_eq (c6) ?_ ?_; (· (simp [*]; done))) | (refine cw_eq (c7) ?_ ?_; (· (simp [*]; done))) | (refine cw_eq (c8) ?_ ?_; (· (simp [*]; done))) | (refine cw_eq (c9) ?_ ?_; (· (simp [*]; done))) | (refine cw_eq (c10) ?_ ?_; (· (simp [*]; done))) | (refine cw_eq (c11) ?_ ?_; (· (simp [*]; done))))
      · generalize checkS m p = E at *
        obtain ⟨e1, e2⟩ := E
        have h : ¬ e2 = 0 := h
        clear hm hp hs hl1 hl2 hpl hplT hT
        generalize formatS p = T at *
        generalize parseS p.riders s = ps at *
        generalize parseS p.riders T = qs at *
        obtain ⟨p1, p2⟩ := ps
        obtain ⟨q1, q2⟩ := qs
        dsimp only at c6 c7 c8 c9 c10
        unfold aMap aPlan cPlan at *
        refine realcall_intro Tryd.func3 (by kernel_rfl) rfl (Nat.le_of_ble_eq_true (by kernel_rfl)) ?_
        simp only [Tryd.results3, Tryd.ntmps3]
        repeat' (first | (with_reducible first | refine awp_seq ?_ | refine awp_blockS ?_ | refine awp_blockC ?_ | refine awp_blockR ?_ | refine awp_skip ?_ | refine awp_ret ?_ | refine awp_exit ?_ | refine awp_region ?_ | refine awp_condM ?_ | refine And.intro ?_ ?_ | apply gQ_merge | apply gE_merge | exact EqV_w | exact EqE_w | exact EqV_ptr | exact EqE_ptr | exact EqV_msl | exact EqE_msl | exact EqV_agg | exact EqE_agg | exact EqV_fn | exact EqE_fn | exact EqV_gd | exact EqE_gd | refine gM_splitN ?_ ?_ | refine gM_split ?_ ?_ |  refine condM_splitDN ?_ ?_ | refine condM_splitD ?_ ?_ | refine condM_splitN ?_ ?_ | refine condM_split ?_ ?_ | refine condM_any ?_ ?_ | refine cw (c0) ?_ | refine cw (c1) ?_ | refine cw (c3) ?_ | refine cw (c4) ?_ | refine cw (c5) ?_ | refine cw (c6) ?_ | refine cw (c7) ?_ | refine cw (c8) ?_ | refine cw (c9) ?_ | refine cw (c10) ?_ | intro _) | (simp [*, hI, h]) | (refine cw_eq (c0) ?_ ?_; (· (simp [*]; done))) | (refine cw_eq (c1) ?_ ?_; (· (simp [*]; done))) | (refine cw_eq (c3) ?_ ?_; (· (simp [*]; done))) | (refine cw_eq (c4) ?_ ?_; (· (simp [*]; done))) | (refine cw_eq (c5) ?_ ?_; (· (simp [*]; done))) | (refine cw_eq (c6) ?_ ?_; (· (simp [*]; done))) | (refine cw_eq (c7) ?_ ?_; (· (simp [*]; done))) | (refine cw_eq (c8) ?_ ?_; (· (simp [*]; done))) | (refine cw_eq (c9) ?_ ?_; (· (simp [*]; done))) | (refine cw_eq (c10) ?_ ?_; (· (simp [*]; done))))
end Go.Proofs.YtiialcomflggcaaDoor

