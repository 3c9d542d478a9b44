/- Contracts of functions for this claim: lemmas alone. -/
import Derived.Test.YtdgbfbgnbgfmjaaGreatDoorP86
import Derived.Test.YtdgbfbgnbgfmjaaGreatDoorP57
set_option linter.unusedSimpArgs false
set_option linter.unusedVariables false
namespace Go.Proofs.YtdgbfbgnbgfmjaaGreatDoor
open Go Go.Fi
set_option maxRecDepth 20000

/-! ### AccountPosts -/
theorem tdiv_in {x : Int} (h1 : -9223372036854775808 ≤ x) (h2 : x ≤ 9223372036854775807) : -9000000000000000000 ≤ x.tdiv 30 ∧ x.tdiv 30 ≤ 9000000000000000000 := by
  rcases Int.le_total 0 x with h | h
  · rw [Int.tdiv_eq_ediv_of_nonneg h]; omega
  · have e : (-x).tdiv 30 = -(x.tdiv 30) := Int.neg_tdiv x 30
    rw [Int.tdiv_eq_ediv_of_nonneg (by omega)] at e
    omega
theorem post_bad2 (b : Book) (hb : BookIn b) (x : Entry) (hx : EntryIn x) (hd1 : -9223372036854775808 ≤ x.date) (hd2 : x.date ≤ 9223372036854775807) (h0 : (bookS b).2 = 0) (h : ¬ postE b x = 0) : RealCall Tryz.prog 70 [.agg (cBook b), .agg (cEntry x)] (.tup [.agg [.sl 0 [], .sl 0 [], .int .i64 0], .int .i64 (postE b x)]) true := by
  have c1 := open_c b hb
  rw [h0] at c1
  obtain ⟨hq1, hq2⟩ := tdiv_in hd1 hd2
  have hal := hb.accs.len
  have hl := hb.len
  have c2 := entry_c b.accs (by omega) x hx
  unfold pairI at c2
  have c5 := first3_c (entryS b.accs x).2 (errUnless (decide (b.closed ≤ x.date.tdiv 30)) 22) (errUnless (decide ((b.entries.length : Int) < 100)) 16)
  change RealCall _ _ _ (.int .i64 (postE b x)) true at c5
  generalize postE b x = X at *
  generalize entryS b.accs x = Y at *
  clear hb h0 hx hd1 hd2
  obtain ⟨ba, be, bc⟩ := b
  obtain ⟨xd, xn, xl⟩ := x
  unfold cBook cEntry at *
  dsimp only at *
  refine realcall_intro Tryz.func70 (by kernel_rfl) rfl (Nat.le_of_ble_eq_true (by kernel_rfl)) ?_
  simp only [Tryz.results70, Tryz.ntmps70]
  repeat' (first | (with_reducible first | refine awp_seq ?_ | refine awp_blockS ?_ | refine awp_blockC ?_ | refine awp_blockR ?_ | refine awp_skip ?_ | refine awp_ret ?_ | refine awp_exit ?_ | refine awp_region ?_ | refine awp_regionD (id := 5) 15 mixed (by decide +kernel) ?_ | refine awp_regionD (id := 10) 8 mixed (by decide +kernel) ?_ | refine awp_condM ?_ | refine And.intro ?_ ?_ | apply gQ_merge | apply gE_merge | exact EqV_w | exact EqE_w | exact EqV_ptr | exact EqE_ptr | exact EqV_msl | exact EqE_msl | exact EqV_agg | exact EqE_agg | exact EqV_fn | exact EqE_fn | exact EqV_gd | exact EqE_gd | refine gM_splitN ?_ ?_ | refine gM_split ?_ ?_ |  refine condM_splitDN ?_ ?_ | refine condM_splitD ?_ ?_ | refine condM_splitN ?_ ?_ | refine condM_split ?_ ?_ | refine condM_any ?_ ?_ | refine cw (c1) ?_ | refine cw (c2) ?_ | refine cw (c5) ?_ | refine cw (unless_c _ _) ?_ | intro _) | (simp [*, h]) | (refine cw_eq (c1) ?_ ?_; (· (simp [*]; done))) | (refine cw_eq (c2) ?_ ?_; (· (simp [*]; done))) | (refine cw_eq (c5) ?_ ?_; (· (simp [*]; done))) | (refine cw_eq (unless_c _ _) ?_ ?_; (· (simp [*]; done))))
  all_goals exact inI64 hq1 hq2
theorem postS_in {b : Book} (hb : BookIn b) {x : Entry} (hx : EntryIn x) (h : b.entries.length < 9000) : BookIn (postS b x) := by
  have hat := postAt_le x.date b.entries
  refine ⟨hb.accs, ?_, fun k hk => ?_⟩
  · unfold postS; dsimp only; rw [insAt_one _ _ _ hat]; omega
  · unfold postS at hk ⊢
    dsimp only at hk ⊢
    have hm : nth (insAt b.entries (postAt x.date b.entries) [x]) k ∈ insAt b.entries (postAt x.date b.entries) [x] := by
      simp only [nth, List.getD_eq_getElem?_getD, List.getElem?_eq_getElem hk, Option.getD_some]
      exact List.getElem_mem hk
    generalize nth (insAt b.entries (postAt x.date b.entries) [x]) k = y at *
    unfold insAt at hm
    simp only [List.mem_append, List.mem_singleton] at hm
    have hent : ∀ y ∈ b.entries, EntryIn y := fun y hy => by
      obtain ⟨j, hj, rfl⟩ := mem_nth hy
      exact hb.ent j hj
    rcases hm with (hm | rfl) | hm
    · exact hent y (List.mem_of_mem_take hm)
    · exact hx
    · exact hent y (List.mem_of_mem_drop hm)
end Go.Proofs.YtdgbfbgnbgfmjaaGreatDoor

