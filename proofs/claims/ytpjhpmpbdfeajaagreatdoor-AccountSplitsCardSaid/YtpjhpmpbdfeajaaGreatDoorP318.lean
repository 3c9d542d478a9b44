/- Contracts of functions for this claim: lemmas alone. -/
import Derived.Test.YtpjhpmpbdfeajaaGreatDoorP316
set_option linter.unusedSimpArgs false
set_option linter.unusedVariables false
namespace Go.Proofs.YtpjhpmpbdfeajaaGreatDoor
open Go Go.Fi
set_option maxRecDepth 20000

/-! ### amounts below 0 -/
def negT (l : List Int) (k : Nat) : List Int := (l.take k).map (fun x => -x) ++ l.drop k
@[simp] theorem negT_zero (l : List Int) : negT l 0 = l := by simp [negT]
@[simp] theorem negT_len (l : List Int) (k : Nat) : (negT l k).length = l.length := by simp [negT]; omega
theorem negT_all (l : List Int) : negT l l.length = l.map (fun x => -x) := by simp [negT]
theorem nth_negT (l : List Int) (k : Nat) (h : k < l.length) : nth (negT l k) k = nth l k := by
  unfold negT
  simp only [nth, List.getD_eq_getElem?_getD]
  rw [List.getElem?_append_right (by simp; omega)]
  simp [Nat.min_eq_left (Nat.le_of_lt h)]
theorem negT_succ (l : List Int) (k : Nat) (h : k < l.length) : negT l (k + 1) = (negT l k).set k (-(nth l k)) := by
  unfold negT
  rw [take_succ_nth l k h, drop_nth l k h, List.map_append, List.set_append_right _ _ (by simp; omega)]
  simp [Nat.min_eq_left (Nat.le_of_lt h)]
set_option maxHeartbeats 8000000 in
theorem split_neg (a : Nat) (ns : List Nat) (h : SplitIn a ns) (ha : 0 < a) : MkCall Tryz.prog 40 [.int .i64 (-(a : Int)), .sl ns.length (ints (toI ns))] [iA (negT (splitS a ns) ns.length)] (.msl 0 ns.length 1 0 ns.length) := by
  have c1 := split_all a ns h
  have hl := splitS_len a ns
  have h1 := splitS_pos a ns h.pos
  have h2 := splitS_le a ns h.pos
  have ham := h.amt
  have hnl := h.len
  clear h
  generalize splitS a ns = L at *
  have kb := keep (fun k (hk : k < ns.length) => (⟨h1 k hk, h2 k hk⟩ : 0 ≤ nth L k ∧ nth L k ≤ (a : Int)))
  clear h1 h2
  have hlt0 : -(a : Int) < 0 := by omega
  have hti := toI_len ns
  refine mkcall_intro 0 [] Tryz.func40 (by kernel_rfl) rfl (Nat.le_of_ble_eq_true (by kernel_rfl)) (by simp) (by simp) ?_
  simp only [Tryz.results40, Tryz.ntmps40]
  repeat' (first | (with_reducible first | refine awp_seq ?_ | refine awp_blockS ?_ | refine awp_blockC ?_ | refine awp_blockR ?_ | refine awp_skip ?_ | refine awp_ret ?_ | refine awp_exit ?_ | refine awp_region ?_ | refine awp_regionS (id := 23) [0, 1, 2, 3, 5, 6, 7, 9, 10, 11] [4, 8, 12, 13, 14, 15] [[], [], [], [], [.slot 10], [.slot 10], [.slot 10], [.slot 10, .fld 12 40 0], [.slot 10, .fld 12 40 0], [.slot 10, .fld 12 40 0]] [[.slot 10], [.fld 12 40 0], [.fld 11 40 0], [], [.slot 12], [.slot 11]] mixed (by decide +kernel) ?_ | refine awp_condM ?_ | refine And.intro ?_ ?_ | apply gQ_merge | apply gE_merge | exact EqV_w | exact EqE_w | exact EqV_ptr | exact EqE_ptr | exact EqV_msl | exact EqE_msl | exact EqV_agg | exact EqE_agg | exact EqV_fn | exact EqE_fn | exact EqV_gd | exact EqE_gd | refine gM_splitN ?_ ?_ | refine gM_split ?_ ?_ |  refine condM_splitDN ?_ ?_ | refine condM_splitD ?_ ?_ | refine condM_splitN ?_ ?_ | refine condM_split ?_ ?_ | refine condM_any ?_ ?_ | refine cwM (c1) ?_ | intro _) | (simp [*, hlt0]))
  all_goals try first | exact inI64 (by omega) (by omega) | omega
  refine awp_for3 (fun (k : Nat) => k ≤ ns.length) [5, 29] (fun (k : Nat) => [(30, .w false false (.int .i64 k))]) [] (fun (k : Nat) => [(0, iA (negT L k))]) (fun (k : Nat) => ns.length - k) (fun (_u : Unit) => True) [5] (fun (_u : Unit) => []) [] (fun (_u : Unit) => [(0, iA (negT L ns.length))]) (0) (Nat.zero_le _) (by simp) (by simp) (fun k hk => ?_) (fun _u hf => ?_)
  · by_cases hlt : k < ns.length
    · obtain ⟨b1, b2⟩ := (show ∀ k, k < ns.length → 0 ≤ nth L k ∧ nth L k ≤ (a : Int) from kb) k hlt
      have hlL : k < L.length := by omega
      have ks := keep (negT_succ L k hlL)
      have hg := nth_negT L k hlL
      have hgl := negT_len L k
      clear kb c1
      generalize negT L k = T at *
      have hlT : k < T.length := by omega
      repeat' (first | (with_reducible first | refine awp_seq ?_ | refine awp_blockS ?_ | refine awp_blockC ?_ | refine awp_blockR ?_ | refine awp_skip ?_ | refine awp_ret ?_ | refine awp_exit ?_ | refine awp_region ?_ | refine awp_regionS (id := 23) [0, 1, 2, 3, 5, 6, 7, 9, 10, 11] [4, 8, 12, 13, 14, 15] [[], [], [], [], [.slot 10], [.slot 10], [.slot 10], [.slot 10, .fld 12 40 0], [.slot 10, .fld 12 40 0], [.slot 10, .fld 12 40 0]] [[.slot 10], [.fld 12 40 0], [.fld 11 40 0], [], [.slot 12], [.slot 11]] mixed (by decide +kernel) ?_ | refine awp_condM ?_ | refine And.intro ?_ ?_ | apply gQ_merge | apply gE_merge | exact EqV_w | exact EqE_w | exact EqV_ptr | exact EqE_ptr | exact EqV_msl | exact EqE_msl | exact EqV_agg | exact EqE_agg | exact EqV_fn | exact EqE_fn | exact EqV_gd | exact EqE_gd | refine gM_splitN ?_ ?_ | refine gM_split ?_ ?_ |  refine condM_splitDN ?_ ?_ | refine condM_splitD ?_ ?_ | refine condM_splitN ?_ ?_ | refine condM_split ?_ ?_ | refine condM_any ?_ ?_ | intro _) | (simp [*, hlt, hg, hgl, hl, hlT]))
      all_goals try first | exact inI64 (by omega) (by omega) | omega
      all_goals (refine loopK_normal _ _ _ _ _ (k + 1) _ ?_ (by first | omega | (dsimp only; omega) | (simp; omega)) ?_; (· omega); (refine le_of ?_ ?_ <;> first | trivial | (simp [*, (show negT L (k + 1) = _ from ks)]; done)))
    · have hke : k = ns.length := by omega
      subst hke
      clear kb c1
      repeat' (first | (with_reducible first | refine awp_seq ?_ | refine awp_blockS ?_ | refine awp_blockC ?_ | refine awp_blockR ?_ | refine awp_skip ?_ | refine awp_ret ?_ | refine awp_exit ?_ | refine awp_region ?_ | refine awp_regionS (id := 23) [0, 1, 2, 3, 5, 6, 7, 9, 10, 11] [4, 8, 12, 13, 14, 15] [[], [], [], [], [.slot 10], [.slot 10], [.slot 10], [.slot 10, .fld 12 40 0], [.slot 10, .fld 12 40 0], [.slot 10, .fld 12 40 0]] [[.slot 10], [.fld 12 40 0], [.fld 11 40 0], [], [.slot 12], [.slot 11]] mixed (by decide +kernel) ?_ | refine awp_condM ?_ | refine And.intro ?_ ?_ | apply gQ_merge | apply gE_merge | exact EqV_w | exact EqE_w | exact EqV_ptr | exact EqE_ptr | exact EqV_msl | exact EqE_msl | exact EqV_agg | exact EqE_agg | exact EqV_fn | exact EqE_fn | exact EqV_gd | exact EqE_gd | refine gM_splitN ?_ ?_ | refine gM_split ?_ ?_ |  refine condM_splitDN ?_ ?_ | refine condM_splitD ?_ ?_ | refine condM_splitN ?_ ?_ | refine condM_split ?_ ?_ | refine condM_any ?_ ?_ | intro _) | (simp [*]))
      all_goals (refine finW_intro () ?_ ?_; (· trivial); (refine le_of ?_ ?_ <;> first | trivial | (simp [*]; done)))
  · clear kb c1
    repeat' (first | (with_reducible first | refine awp_seq ?_ | refine awp_blockS ?_ | refine awp_blockC ?_ | refine awp_blockR ?_ | refine awp_skip ?_ | refine awp_ret ?_ | refine awp_exit ?_ | refine awp_region ?_ | refine awp_regionS (id := 23) [0, 1, 2, 3, 5, 6, 7, 9, 10, 11] [4, 8, 12, 13, 14, 15] [[], [], [], [], [.slot 10], [.slot 10], [.slot 10], [.slot 10, .fld 12 40 0], [.slot 10, .fld 12 40 0], [.slot 10, .fld 12 40 0]] [[.slot 10], [.fld 12 40 0], [.fld 11 40 0], [], [.slot 12], [.slot 11]] mixed (by decide +kernel) ?_ | refine awp_condM ?_ | refine And.intro ?_ ?_ | apply gQ_merge | apply gE_merge | exact EqV_w | exact EqE_w | exact EqV_ptr | exact EqE_ptr | exact EqV_msl | exact EqE_msl | exact EqV_agg | exact EqE_agg | exact EqV_fn | exact EqE_fn | exact EqV_gd | exact EqE_gd | refine gM_splitN ?_ ?_ | refine gM_split ?_ ?_ |  refine condM_splitDN ?_ ?_ | refine condM_splitD ?_ ?_ | refine condM_splitN ?_ ?_ | refine condM_split ?_ ?_ | refine condM_any ?_ ?_ | intro _) | (simp [*]))
end Go.Proofs.YtpjhpmpbdfeajaaGreatDoor
namespace Go.Proofs.YtpjhpmpbdfeajaaGreatDoor
open Go Go.Fi
set_option maxRecDepth 20000

/-! ### both Splits, of any amount -/
theorem rSplit_bad (a : Int) (l : List Int) (hl : l.length < 100000) (h : splitE a l ≠ 0) : RealCall Tryz.prog 9 [.int .i64 a, .sl l.length (ints l)] (.tup [.sl 0 [], .int .i64 (splitE a l)]) true := by
  have c1 := rSmall_c a 1000000000000000 (by decide) (by decide)
  have c2 := rSharesErr_c l hl
  unfold splitE at *
  by_cases h1 : smallB a 1000000000000000 = true
  · rw [h1] at c1
    by_cases h2 : l.length = 0
    · have e : l = [] := List.eq_nil_of_length_eq_zero h2
      subst e
      have e2 : firstS [errUnless (smallB a 1000000000000000) 2, errUnless (decide ((0 : Int) < (([] : List Int).length : Int))) 10, errUnless (decide ((([] : List Int).length : Int) ≤ 12)) 8, shareE []] = 10 := by rw [h1]; rfl
      rw [e2]
      refine realcall_intro Tryz.func9 (by kernel_rfl) rfl (Nat.le_of_ble_eq_true (by kernel_rfl)) ?_
      simp only [Tryz.results9, Tryz.ntmps9]
      repeat' (first | (with_reducible first | refine awp_seq ?_ | refine awp_blockS ?_ | refine awp_blockC ?_ | refine awp_blockR ?_ | refine awp_skip ?_ | refine awp_ret ?_ | refine awp_exit ?_ | refine awp_region ?_ | refine awp_regionD (id := 22) 8 mixed (by decide +kernel) ?_ | refine awp_regionD (id := 29) 17 mixed (by decide +kernel) ?_ | refine awp_regionD (id := 38) 9 mixed (by decide +kernel) ?_ | refine awp_condM ?_ | refine And.intro ?_ ?_ | apply gQ_merge | apply gE_merge | exact EqV_w | exact EqE_w | exact EqV_ptr | exact EqE_ptr | exact EqV_msl | exact EqE_msl | exact EqV_agg | exact EqE_agg | exact EqV_fn | exact EqE_fn | exact EqV_gd | exact EqE_gd | refine gM_splitN ?_ ?_ | refine gM_split ?_ ?_ |  refine condM_splitDN ?_ ?_ | refine condM_splitD ?_ ?_ | refine condM_splitN ?_ ?_ | refine condM_split ?_ ?_ | refine condM_any ?_ ?_ | refine cw (c1) ?_ | intro _) | (simp [*]) | (refine cw_eq (c1) ?_ ?_; (· (simp [*]; done))))
    · have h2I : ¬ (l.length : Int) = 0 := by omega
      have hnil : ¬ l = [] := fun e => h2 (by rw [e]; rfl)
      have d2 : decide ((0 : Int) < (l.length : Int)) = true := decide_eq_true (by omega)
      by_cases h3 : 12 < l.length
      · have h3I : (12 : Int) < (l.length : Int) := by omega
        have e2 : firstS [errUnless (smallB a 1000000000000000) 2, errUnless (decide ((0 : Int) < (l.length : Int))) 10, errUnless (decide ((l.length : Int) ≤ 12)) 8, shareE l] = 8 := by
          rw [h1, d2, decide_eq_false (by omega)]; rfl
        rw [e2]
        refine realcall_intro Tryz.func9 (by kernel_rfl) rfl (Nat.le_of_ble_eq_true (by kernel_rfl)) ?_
        simp only [Tryz.results9, Tryz.ntmps9]
        repeat' (first | (with_reducible first | refine awp_seq ?_ | refine awp_blockS ?_ | refine awp_blockC ?_ | refine awp_blockR ?_ | refine awp_skip ?_ | refine awp_ret ?_ | refine awp_exit ?_ | refine awp_region ?_ | refine awp_regionD (id := 22) 8 mixed (by decide +kernel) ?_ | refine awp_regionD (id := 29) 17 mixed (by decide +kernel) ?_ | refine awp_regionD (id := 38) 9 mixed (by decide +kernel) ?_ | refine awp_condM ?_ | refine And.intro ?_ ?_ | apply gQ_merge | apply gE_merge | exact EqV_w | exact EqE_w | exact EqV_ptr | exact EqE_ptr | exact EqV_msl | exact EqE_msl | exact EqV_agg | exact EqE_agg | exact EqV_fn | exact EqE_fn | exact EqV_gd | exact EqE_gd | refine gM_splitN ?_ ?_ | refine gM_split ?_ ?_ |  refine condM_splitDN ?_ ?_ | refine condM_splitD ?_ ?_ | refine condM_splitN ?_ ?_ | refine condM_split ?_ ?_ | refine condM_any ?_ ?_ | refine cw (c1) ?_ | intro _) | (simp [*, h2, h2I, hnil, h3I]) | (refine cw_eq (c1) ?_ ?_; (· (simp [*]; done))))
      · have h3I : ¬ (12 : Int) < (l.length : Int) := by omega
        have e2 : firstS [errUnless (smallB a 1000000000000000) 2, errUnless (decide ((0 : Int) < (l.length : Int))) 10, errUnless (decide ((l.length : Int) ≤ 12)) 8, shareE l] = shareE l := by
          rw [h1, d2, decide_eq_true (by omega)]
          show firstS [0, 0, 0, shareE l] = shareE l
          simp [firstS]
          intro e; exact e.symm
        rw [e2] at h ⊢
        generalize shareE l = E at *
        refine realcall_intro Tryz.func9 (by kernel_rfl) rfl (Nat.le_of_ble_eq_true (by kernel_rfl)) ?_
        simp only [Tryz.results9, Tryz.ntmps9]
        repeat' (first | (with_reducible first | refine awp_seq ?_ | refine awp_blockS ?_ | refine awp_blockC ?_ | refine awp_blockR ?_ | refine awp_skip ?_ | refine awp_ret ?_ | refine awp_exit ?_ | refine awp_region ?_ | refine awp_regionD (id := 22) 8 mixed (by decide +kernel) ?_ | refine awp_regionD (id := 29) 17 mixed (by decide +kernel) ?_ | refine awp_regionD (id := 38) 9 mixed (by decide +kernel) ?_ | refine awp_condM ?_ | refine And.intro ?_ ?_ | apply gQ_merge | apply gE_merge | exact EqV_w | exact EqE_w | exact EqV_ptr | exact EqE_ptr | exact EqV_msl | exact EqE_msl | exact EqV_agg | exact EqE_agg | exact EqV_fn | exact EqE_fn | exact EqV_gd | exact EqE_gd | refine gM_splitN ?_ ?_ | refine gM_split ?_ ?_ |  refine condM_splitDN ?_ ?_ | refine condM_splitD ?_ ?_ | refine condM_splitN ?_ ?_ | refine condM_split ?_ ?_ | refine condM_any ?_ ?_ | refine cw (c1) ?_ | refine cw (c2) ?_ | intro _) | (simp [*, h, h2, h2I, hnil, h3I]) | (refine cw_eq (c1) ?_ ?_; (· (simp [*]; done))) | (refine cw_eq (c2) ?_ ?_; (· (simp [*]; done))))
  · have h1f : smallB a 1000000000000000 = false := by simpa using h1
    rw [h1f] at c1
    have e2 : firstS [errUnless (smallB a 1000000000000000) 2, errUnless (decide ((0 : Int) < (l.length : Int))) 10, errUnless (decide ((l.length : Int) ≤ 12)) 8, shareE l] = 2 := by rw [h1f]; rfl
    rw [e2]
    refine realcall_intro Tryz.func9 (by kernel_rfl) rfl (Nat.le_of_ble_eq_true (by kernel_rfl)) ?_
    simp only [Tryz.results9, Tryz.ntmps9]
    repeat' (first | (with_reducible first | refine awp_seq ?_ | refine awp_blockS ?_ | refine awp_blockC ?_ | refine awp_blockR ?_ | refine awp_skip ?_ | refine awp_ret ?_ | refine awp_exit ?_ | refine awp_region ?_ | refine awp_regionD (id := 22) 8 mixed (by decide +kernel) ?_ | refine awp_regionD (id := 29) 17 mixed (by decide +kernel) ?_ | refine awp_regionD (id := 38) 9 mixed (by decide +kernel) ?_ | refine awp_condM ?_ | refine And.intro ?_ ?_ | apply gQ_merge | apply gE_merge | exact EqV_w | exact EqE_w | exact EqV_ptr | exact EqE_ptr | exact EqV_msl | exact EqE_msl | exact EqV_agg | exact EqE_agg | exact EqV_fn | exact EqE_fn | exact EqV_gd | exact EqE_gd | refine gM_splitN ?_ ?_ | refine gM_split ?_ ?_ |  refine condM_splitDN ?_ ?_ | refine condM_splitD ?_ ?_ | refine condM_splitN ?_ ?_ | refine condM_split ?_ ?_ | refine condM_any ?_ ?_ | refine cw (c1) ?_ | intro _) | (simp [*]) | (refine cw_eq (c1) ?_ ?_; (· (simp [*]; done))))
end Go.Proofs.YtpjhpmpbdfeajaaGreatDoor
namespace Go.Proofs.YtpjhpmpbdfeajaaGreatDoor
open Go Go.Fi
set_option maxRecDepth 20000

theorem mkreal {P : Program} {f : FuncId} {args : List PV} {E : List (List AV)} {v : AV} {res : PV} (h : MkCall P f args E v) (hz : frz (addE [] 0 E) 6 v = some res) (hf : freshA (addE [] 0 E) 6 v = true) : RealCall P f args res true := by
  obtain ⟨he, _, _, hc⟩ := h
  refine ⟨he, fun G w vs hok hl hr => (hc G w vs hok hl hr).mono ?_⟩
  rintro e w' ⟨u, mm, rfl, hb, hd, hs, hrep⟩
  exact ⟨u, rfl, hb, frz_rep (B := ⟨w.heap.size, G⟩) hs (fun id cs e => hget_mem e) true (fun b hb => ⟨fun hl => by simp only at hb; omega, fun _ => hb⟩) (fun hf => by cases hf) 6 _ _ _ hz (fun _ => hf) hrep⟩
set_option maxHeartbeats 8000000 in
theorem rSplit_neg (a : Nat) (ns : List Nat) (h : SplitIn a ns) (h12 : ns.length ≤ 12) (hE : shareE (toI ns) = 0) (ha : 0 < a) : MkCall Tryz.prog 9 [.int .i64 (-(a : Int)), .sl ns.length (ints (toI ns))] [iA (negT (splitS a ns) ns.length)] (.tup [.msl 0 ns.length 1 0 ns.length, .w false false (.int .i64 0)]) := by
  have cc := rSplit_mk a ns h h12 hE
  have hl := splitS_len a ns
  have h1 := splitS_pos a ns h.pos
  have h2 := splitS_le a ns h.pos
  have ham := h.amt
  have hn0 : 0 < ns.length := ns_pos h.pos
  clear h
  generalize splitS a ns = L at *
  have kb := keep (fun k (hk : k < ns.length) => (⟨h1 k hk, h2 k hk⟩ : 0 ≤ nth L k ∧ nth L k ≤ (a : Int)))
  clear h1 h2
  have hlt0 : -(a : Int) < 0 := by omega
  have hti := toI_len ns
  have c1 := rSmall_c (-(a : Int)) 1000000000000000 (by decide) (by decide)
  have hsm : smallB (-(a : Int)) 1000000000000000 = true := winB_iff.2 ⟨by omega, by omega⟩
  rw [hsm] at c1
  clear hsm
  have c2 := rSharesErr_c (toI ns) (by rw [hti]; omega)
  rw [hE, hti] at c2
  clear hE
  have hn1 : ¬ ns.length = 0 := by omega
  have hn2 : ¬ 12 < ns.length := by omega
  have hn1I : ¬ (ns.length : Int) = 0 := by omega
  have hn2I : ¬ (12 : Int) < (ns.length : Int) := by omega
  refine mkcall_intro 0 [] Tryz.func9 (by kernel_rfl) rfl (Nat.le_of_ble_eq_true (by kernel_rfl)) (by simp) (by simp) ?_
  simp only [Tryz.results9, Tryz.ntmps9]
  repeat' (first | (with_reducible first | refine awp_seq ?_ | refine awp_blockS ?_ | refine awp_blockC ?_ | refine awp_blockR ?_ | refine awp_skip ?_ | refine awp_ret ?_ | refine awp_exit ?_ | refine awp_region ?_ | refine awp_regionD (id := 22) 8 mixed (by decide +kernel) ?_ | refine awp_regionD (id := 29) 17 mixed (by decide +kernel) ?_ | refine awp_regionD (id := 38) 9 mixed (by decide +kernel) ?_ | refine awp_condM ?_ | refine And.intro ?_ ?_ | apply gQ_merge | apply gE_merge | exact EqV_w | exact EqE_w | exact EqV_ptr | exact EqE_ptr | exact EqV_msl | exact EqE_msl | exact EqV_agg | exact EqE_agg | exact EqV_fn | exact EqE_fn | exact EqV_gd | exact EqE_gd | refine gM_splitN ?_ ?_ | refine gM_split ?_ ?_ |  refine condM_splitDN ?_ ?_ | refine condM_splitD ?_ ?_ | refine condM_splitN ?_ ?_ | refine condM_split ?_ ?_ | refine condM_any ?_ ?_ | refine cw (c1) ?_ | refine cw (c2) ?_ | refine cwM (cc) ?_ | intro _) | (simp [*, hlt0, hn1, hn2, hn1I, hn2I]) | (refine cw_eq (c1) ?_ ?_; (· (simp [*]; done))) | (refine cw_eq (c2) ?_ ?_; (· (simp [*]; done))))
  all_goals try first | exact inI64 (by omega) (by omega) | omega
  clear c1 c2
  refine awp_for3 (fun (k : Nat) => k ≤ ns.length) [7] (fun (k : Nat) => [(9, .w false false (.int .i64 k))]) [] (fun (k : Nat) => [(0, iA (negT L k))]) (fun (k : Nat) => ns.length - k) (fun (_u : Unit) => True) [7] (fun (_u : Unit) => []) [] (fun (_u : Unit) => [(0, iA (negT L ns.length))]) (0) (Nat.zero_le _) (by simp) (by simp) (fun k hk => ?_) (fun _u hf => ?_)
  · by_cases hlt : k < ns.length
    · obtain ⟨b1, b2⟩ := (show ∀ k, k < ns.length → 0 ≤ nth L k ∧ nth L k ≤ (a : Int) from kb) k hlt
      have hlL : k < L.length := by omega
      have ks := keep (negT_succ L k hlL)
      have hg := nth_negT L k hlL
      have hgl := negT_len L k
      clear kb cc
      generalize negT L k = T at *
      have hlT : k < T.length := by omega
      repeat' (first | (with_reducible first | refine awp_seq ?_ | refine awp_blockS ?_ | refine awp_blockC ?_ | refine awp_blockR ?_ | refine awp_skip ?_ | refine awp_ret ?_ | refine awp_exit ?_ | refine awp_region ?_ | refine awp_regionD (id := 22) 8 mixed (by decide +kernel) ?_ | refine awp_regionD (id := 29) 17 mixed (by decide +kernel) ?_ | refine awp_regionD (id := 38) 9 mixed (by decide +kernel) ?_ | refine awp_condM ?_ | refine And.intro ?_ ?_ | apply gQ_merge | apply gE_merge | exact EqV_w | exact EqE_w | exact EqV_ptr | exact EqE_ptr | exact EqV_msl | exact EqE_msl | exact EqV_agg | exact EqE_agg | exact EqV_fn | exact EqE_fn | exact EqV_gd | exact EqE_gd | refine gM_splitN ?_ ?_ | refine gM_split ?_ ?_ |  refine condM_splitDN ?_ ?_ | refine condM_splitD ?_ ?_ | refine condM_splitN ?_ ?_ | refine condM_split ?_ ?_ | refine condM_any ?_ ?_ | intro _) | (simp [*, hlt, hg, hgl, hl, hlT]))
      all_goals try first | exact inI64 (by omega) (by omega) | omega
      all_goals (refine loopK_normal _ _ _ _ _ (k + 1) _ ?_ (by first | omega | (dsimp only; omega) | (simp; omega)) ?_; (· omega); (refine le_of ?_ ?_ <;> first | trivial | (simp [*, (show negT L (k + 1) = _ from ks)]; done)))
    · have hke : k = ns.length := by omega
      subst hke
      clear kb cc
      repeat' (first | (with_reducible first | refine awp_seq ?_ | refine awp_blockS ?_ | refine awp_blockC ?_ | refine awp_blockR ?_ | refine awp_skip ?_ | refine awp_ret ?_ | refine awp_exit ?_ | refine awp_region ?_ | refine awp_regionD (id := 22) 8 mixed (by decide +kernel) ?_ | refine awp_regionD (id := 29) 17 mixed (by decide +kernel) ?_ | refine awp_regionD (id := 38) 9 mixed (by decide +kernel) ?_ | refine awp_condM ?_ | refine And.intro ?_ ?_ | apply gQ_merge | apply gE_merge | exact EqV_w | exact EqE_w | exact EqV_ptr | exact EqE_ptr | exact EqV_msl | exact EqE_msl | exact EqV_agg | exact EqE_agg | exact EqV_fn | exact EqE_fn | exact EqV_gd | exact EqE_gd | refine gM_splitN ?_ ?_ | refine gM_split ?_ ?_ |  refine condM_splitDN ?_ ?_ | refine condM_splitD ?_ ?_ | refine condM_splitN ?_ ?_ | refine condM_split ?_ ?_ | refine condM_any ?_ ?_ | intro _) | (simp [*]))
      all_goals (refine finW_intro () ?_ ?_; (· trivial); (refine le_of ?_ ?_ <;> first | trivial | (simp [*]; done)))
  · clear kb cc
    repeat' (first | (with_reducible first | refine awp_seq ?_ | refine awp_blockS ?_ | refine awp_blockC ?_ | refine awp_blockR ?_ | refine awp_skip ?_ | refine awp_ret ?_ | refine awp_exit ?_ | refine awp_region ?_ | refine awp_regionD (id := 22) 8 mixed (by decide +kernel) ?_ | refine awp_regionD (id := 29) 17 mixed (by decide +kernel) ?_ | refine awp_regionD (id := 38) 9 mixed (by decide +kernel) ?_ | refine awp_condM ?_ | refine And.intro ?_ ?_ | apply gQ_merge | apply gE_merge | exact EqV_w | exact EqE_w | exact EqV_ptr | exact EqE_ptr | exact EqV_msl | exact EqE_msl | exact EqV_agg | exact EqE_agg | exact EqV_fn | exact EqE_fn | exact EqV_gd | exact EqE_gd | refine gM_splitN ?_ ?_ | refine gM_split ?_ ?_ |  refine condM_splitDN ?_ ?_ | refine condM_splitD ?_ ?_ | refine condM_splitN ?_ ?_ | refine condM_split ?_ ?_ | refine condM_any ?_ ?_ | intro _) | (simp [*]))

/-! ### what both answer -/
def natsOf (l : List Int) : List Nat := l.map Int.toNat
def partsA (a : Int) (l : List Int) : List Int := if 0 ≤ a then splitS a.toNat (natsOf l) else negT (splitS (-a).toNat (natsOf l)) (natsOf l).length
theorem share_facts {l : List Int} (h : shareE l = 0) : (∀ k, k < l.length → 0 ≤ nth l k ∧ nth l k ≤ 1000000) ∧ ∃ k, k < l.length ∧ 0 < nth l k := by
  have h1 := firstS_zero h _ (List.mem_cons_self ..)
  have h2 := firstS_zero h (errUnless (l.any fun x => decide (0 < x)) 11) (by simp)
  constructor
  · intro k hk
    cases ha : (l.any fun x => !winB x 0 1000000) with
    | true => rw [ha] at h1; cases h1
    | false =>
      have hm : nth l k ∈ l := by
        simp only [nth, List.getD_eq_getElem?_getD, List.getElem?_eq_getElem hk, Option.getD_some]
        exact List.getElem_mem hk
      have := List.any_eq_false.1 ha _ hm
      have hw : winB (nth l k) 0 1000000 = true := by simpa using this
      exact winB_iff.1 hw
  · cases ha : (l.any fun x => decide ((0 : Int) < x)) with
    | false => rw [ha] at h2; cases h2
    | true =>
      obtain ⟨x, hx, hp⟩ := List.any_eq_true.1 ha
      obtain ⟨k, hk, rfl⟩ := mem_nth hx
      exact ⟨k, hk, of_decide_eq_true hp⟩
theorem toI_nats {l : List Int} (h : ∀ k, k < l.length → 0 ≤ nth l k) : toI (natsOf l) = l := by
  unfold toI natsOf
  rw [List.map_map]
  refine (List.map_congr_left (fun x hx => ?_)).trans (List.map_id l)
  obtain ⟨k, hk, rfl⟩ := mem_nth hx
  have := h k hk
  simp only [Function.comp, id]
  omega
theorem nth_nats (l : List Int) (k : Nat) (hk : k < l.length) : nth (natsOf l) k = (nth l k).toNat := by
  simp [natsOf, nth, hk]
theorem split_facts {a : Int} {l : List Int} (h : splitE a l = 0) : (-1000000000000000 ≤ a ∧ a ≤ 1000000000000000) ∧ 0 < l.length ∧ l.length ≤ 12 ∧ shareE l = 0 := by
  have h1 := firstS_zero h (errUnless (smallB a 1000000000000000) 2) (by simp)
  have h2 := firstS_zero h (errUnless (decide ((0 : Int) < l.length)) 10) (by simp)
  have h3 := firstS_zero h (errUnless (decide ((l.length : Int) ≤ 12)) 8) (by simp)
  have h4 := firstS_zero h (shareE l) (by simp)
  refine ⟨?_, ?_, ?_, h4⟩
  · cases hs : smallB a 1000000000000000 with
    | true => have := winB_iff.1 hs; omega
    | false => rw [hs] at h1; cases h1
  · by_cases hd : (0 : Int) < l.length
    · omega
    · rw [decide_eq_false hd] at h2; cases h2
  · by_cases hd : (l.length : Int) ≤ 12
    · omega
    · rw [decide_eq_false hd] at h3; cases h3
theorem splitIn_of {a : Int} {l : List Int} (h : splitE a l = 0) {b : Nat} (hb : b ≤ 1000000000000000) : SplitIn b (natsOf l) := by
  obtain ⟨_, h2, h3, h4⟩ := split_facts h
  obtain ⟨s1, k, hk, s2⟩ := share_facts h4
  have hlen : (natsOf l).length = l.length := by simp [natsOf]
  refine ⟨by omega, ?_, fun k hk => ?_, hb⟩
  · have := nth_le_sum (natsOf l) k (by omega)
    rw [nth_nats l k hk] at this
    omega
  · rw [nth_nats l k (by omega)]
    have := s1 k (by omega)
    omega
theorem partsA_len (a : Int) (l : List Int) : (partsA a l).length = l.length := by
  unfold partsA natsOf
  split <;> simp
theorem splitF_c (a : Int) (l : List Int) (hl : l.length < 100000) : RealCall Tryz.prog 7 [.int .i64 a, .sl l.length (ints l)] (.tup [.sl (if splitE a l = 0 then partsA a l else []).length (ints (if splitE a l = 0 then partsA a l else [])), .int .i64 (splitE a l)]) true := by
  by_cases h : splitE a l = 0
  · rw [if_pos h]
    obtain ⟨⟨ha0, ha1⟩, h2, h3, h4⟩ := split_facts h
    have ht := toI_nats (fun k hk => ((share_facts h4).1 k hk).1)
    have hlen : (natsOf l).length = l.length := by simp [natsOf]
    have hp := partsA_len a l
    have main : MkCall Tryz.prog 40 [.int .i64 a, .sl l.length (ints l)] [iA (partsA a l)] (.msl 0 l.length 1 0 l.length) := by
      unfold partsA
      by_cases hz : 0 ≤ a
      · rw [if_pos hz]
        have c := split_all a.toNat (natsOf l) (splitIn_of h (by omega))
        rw [ht, hlen, Int.toNat_of_nonneg hz] at c
        exact c
      · rw [if_neg hz]
        have c := split_neg (-a).toNat (natsOf l) (splitIn_of h (by omega)) (by omega)
        rw [ht, hlen, Int.toNat_of_nonneg (by omega), Int.neg_neg] at c
        rw [hlen]
        exact c
    have c := splitF_ok a l hl h (partsA a l) hp main
    rw [hp, h]
    exact c
  · rw [if_neg h]
    exact splitF_bad a l hl h
theorem rSplit_c (a : Int) (l : List Int) (hl : l.length < 100000) : RealCall Tryz.prog 9 [.int .i64 a, .sl l.length (ints l)] (.tup [.sl (if splitE a l = 0 then partsA a l else []).length (ints (if splitE a l = 0 then partsA a l else [])), .int .i64 (splitE a l)]) true := by
  by_cases h : splitE a l = 0
  · rw [if_pos h]
    obtain ⟨⟨ha0, ha1⟩, h2, h3, h4⟩ := split_facts h
    have ht := toI_nats (fun k hk => ((share_facts h4).1 k hk).1)
    have hlen : (natsOf l).length = l.length := by simp [natsOf]
    have hp := partsA_len a l
    have main : MkCall Tryz.prog 9 [.int .i64 a, .sl l.length (ints l)] [iA (partsA a l)] (.tup [.msl 0 l.length 1 0 l.length, .w false false (.int .i64 0)]) := by
      unfold partsA
      by_cases hz : 0 ≤ a
      · rw [if_pos hz]
        have c := rSplit_mk a.toNat (natsOf l) (splitIn_of h (by omega)) (by omega) (by rw [ht]; exact h4)
        rw [ht, hlen, Int.toNat_of_nonneg hz] at c
        exact c
      · rw [if_neg hz]
        have c := rSplit_neg (-a).toNat (natsOf l) (splitIn_of h (by omega)) (by omega) (by rw [ht]; exact h4) (by omega)
        rw [ht, hlen, Int.toNat_of_nonneg (by omega), Int.neg_neg] at c
        rw [hlen]
        exact c
    rw [h]
    generalize partsA a l = p at *
    refine mkreal main ?_ ?_
    · have ht : (ints p).take l.length = ints p := by rw [ints_take, List.take_of_length_le (by omega)]
      simp [addE, frz, hp, ht]
    · simp [addE, freshA]
  · rw [if_neg h]
    exact rSplit_bad a l hl h
end Go.Proofs.YtpjhpmpbdfeajaaGreatDoor

