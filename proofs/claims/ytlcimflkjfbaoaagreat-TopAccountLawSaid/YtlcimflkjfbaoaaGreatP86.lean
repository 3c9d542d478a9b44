/- Contracts of functions for this claim: lemmas alone. -/
import Derived.Test.YtlcimflkjfbaoaaGreatP82
import Derived.Test.YtlcimflkjfbaoaaGreatP41
import Derived.Test.YtlcimflkjfbaoaaGreatP58
set_option linter.unusedSimpArgs false
set_option linter.unusedVariables false
namespace Go.Proofs.YtlcimflkjfbaoaaGreat
open Go Go.Fi
set_option maxRecDepth 20000
attribute [-simp] cEntries_drop2

/-! ### a book with an entry more -/
theorem cEntries_app (a b : List Entry) : cEntries (a ++ b) = cEntries a ++ cEntries b := by simp [cEntries, List.flatMap_append]
theorem ins_cells (l : List Entry) (x : Entry) (at_ : Nat) : insAt ((cEntries l).map (AV.w true false)) (at_ * 3) ((cEntry x).map (AV.w true false)) = (cEntries (insAt l at_ [x])).map (AV.w true false) := by
  unfold insAt
  rw [cEntries_app, cEntries_app, ← List.map_take, ← List.map_drop, List.map_append, List.map_append, cEntries_take, cEntries_drop2]
  simp [cEntries]
theorem insAt_one {α : Type} (l : List α) (x : α) (p : Nat) (h : p ≤ l.length) : (insAt l p [x]).length = l.length + 1 := by
  rw [insAt_len _ _ _ h]; rfl
theorem ents_ones : ∀ l : List Entry, ones ((cEntries l).map (AV.w true false)) = true
  | [] => rfl
  | x :: r => by
    have ih := ents_ones r
    show (AV.one (.w true false (.int .i64 x.date)) && (AV.one (.w true false (.str x.note)) && (AV.one (.w true false (.sl x.lines.length (cLines x.lines))) && ones ((cEntries r).map (AV.w true false))))) = true
    rw [ih]; rfl
def postS (b : Book) (x : Entry) : Book := ⟨b.accs, insAt b.entries (postAt x.date b.entries) [x], b.closed⟩
set_option maxHeartbeats 8000000 in
theorem post_ok (b : Book) (hb : BookIn b) (x : Entry) (hx : EntryIn x) (h0 : (bookS b).2 = 0) (h : postE b x = 0) : RealCall Tryz.prog 14 [.agg (cBook b), .agg (cEntry x)] (.tup [.agg (cBook (postS b x)), .int .i64 0]) true := by
  have c1 := open_c b hb
  rw [h0] at c1
  have he := firstS_zero h (entryS b.accs x).2 (by simp)
  have hd := headE_zero (entryS_zero he).1
  have hd1 := hd.1
  have hq : 0 ≤ x.date.tdiv 30 ∧ x.date.tdiv 30 ≤ 100000 := by rw [Int.tdiv_eq_ediv_of_nonneg hd1]; omega
  obtain ⟨hq1, hq2⟩ := hq
  have hal := hb.accs.len
  have hl := hb.len
  have c2 := entry_c b.accs (by omega) x hx
  unfold pairI at c2
  rw [he] at c2
  have c5 := first3_c (entryS b.accs x).2 (errUnless (decide (b.closed ≤ x.date.tdiv 30)) 22) (errUnless (decide ((b.entries.length : Int) < 100)) 16)
  change RealCall _ _ _ (.int .i64 (postE b x)) true at c5
  rw [h, he] at c5
  have cc := copiedBook_mk b hb
  have cs := search_c b.entries.length (by omega) 36 [.ip (cBook b) 0, .ip (cEntry x) 0] (fun k => decide (x.date < (nth b.entries k).date)) (fun k hk => post1_c b x k hk)
  rw [search_at x.date b.entries (bookS_sorted h0)] at cs
  have cx := copied_c x (by have := hx.len; omega)
  have hat := postAt_le x.date b.entries
  have hcells := ins_cells b.entries x (postAt x.date b.entries)
  have hilen := insAt_one b.entries x (postAt x.date b.entries) hat
  unfold postS
  generalize hIL : insAt b.entries (postAt x.date b.entries) [x] = IL at *
  generalize postAt x.date b.entries = at_ at *
  generalize (entryS b.accs x).1 = Y at *
  rw [entsA_all] at cc
  clear hIL hb h0 hx h he hd hd1
  obtain ⟨ba, be, bc⟩ := b
  obtain ⟨xd, xn, xl⟩ := x
  unfold cBook cEntry at *
  dsimp only at *
  have kcells := keep hcells
  clear hcells
  refine realcall_intro Tryz.func14 (by kernel_rfl) rfl (Nat.le_of_ble_eq_true (by kernel_rfl)) ?_
  simp only [Tryz.results14, Tryz.ntmps14]
  repeat' (first | (with_reducible first | refine awp_regionDE (id := 10) 6 mixed (by decide +kernel) (by decide) rfl ?_ | refine awp_seq ?_ | refine awp_blockS ?_ | refine awp_blockC ?_ | refine awp_blockR ?_ | refine awp_skip ?_ | refine awp_ret ?_ | refine awp_exit ?_ | refine awp_region ?_ | refine awp_regionD (id := 5) 15 mixed (by decide +kernel) ?_ | refine awp_regionD (id := 10) 8 mixed (by decide +kernel) ?_ | refine awp_condM ?_ | refine And.intro ?_ ?_ | apply gQ_merge | apply gE_merge | exact EqV_w | exact EqE_w | exact EqV_ptr | exact EqE_ptr | exact EqV_msl | exact EqE_msl | exact EqV_agg | exact EqE_agg | exact EqV_fn | exact EqE_fn | exact EqV_gd | exact EqE_gd | refine gM_splitN ?_ ?_ | refine gM_split ?_ ?_ |  refine condM_splitDN ?_ ?_ | refine condM_splitD ?_ ?_ | refine condM_splitN ?_ ?_ | refine condM_split ?_ ?_ | refine condM_any ?_ ?_ | refine cw (c1) ?_ | refine cw (c2) ?_ | refine cw (c5) ?_ | refine cw (unless_c _ _) ?_ | refine cwM (cc) ?_ | refine cw (cs) ?_ | refine cw (cx) ?_ | intro _) | (simp [*]) | (refine cw_eq (c1) ?_ ?_; (· (simp [*]; done))) | (refine cw_eq (c2) ?_ ?_; (· (simp [*]; done))) | (refine cw_eq (c5) ?_ ?_; (· (simp [*]; done))) | (refine cw_eq (unless_c _ _) ?_ ?_; (· (simp [*]; done))) | (refine cw_eq (cs) ?_ ?_; (· (simp [*]; done))) | (refine cw_eq (cx) ?_ ?_; (· (simp [*]; done))))
  all_goals try first | exact inI64 (by omega) (by omega) | omega
  have hc2 : insAt ((cEntries be).map (AV.w true false)) (at_ * 3) [.w true false (.int .i64 xd), .w true false (.str xn), .w true false (.sl xl.length (cLines xl))] = (cEntries IL).map (AV.w true false) := kcells
  refine ecallM_intro (id := 5) (c := (cEntries IL).map (AV.w true false)) (v := .msl 5 ((be.length + 1) * 3) 3 0 (be.length + 1)) (by simp) rfl ?_ ?_
  · rw [← hc2]
    refine insert_e (cells := (cEntries be).map (AV.w true false)) (news := [.w true false (.int .i64 xd), .w true false (.str xn), .w true false (.sl xl.length (cLines xl))]) ?_ ?_ ?_ rfl (by decide) hat (by omega) ?_ rfl
    all_goals first | exact ents_ones _ | (simp; done) | rfl
  · clear c1 c2 c5 cc cs cx hc2 kcells
    repeat' (first | (with_reducible first | refine awp_seq ?_ | refine awp_blockS ?_ | refine awp_blockC ?_ | refine awp_blockR ?_ | refine awp_skip ?_ | refine awp_ret ?_ | refine awp_exit ?_ | refine awp_region ?_ | refine awp_regionD (id := 5) 15 mixed (by decide +kernel) ?_ | refine awp_regionD (id := 10) 8 mixed (by decide +kernel) ?_ | refine awp_condM ?_ | refine And.intro ?_ ?_ | apply gQ_merge | apply gE_merge | exact EqV_w | exact EqE_w | exact EqV_ptr | exact EqE_ptr | exact EqV_msl | exact EqE_msl | exact EqV_agg | exact EqE_agg | exact EqV_fn | exact EqE_fn | exact EqV_gd | exact EqE_gd | refine gM_splitN ?_ ?_ | refine gM_split ?_ ?_ |  refine condM_splitDN ?_ ?_ | refine condM_splitD ?_ ?_ | refine condM_splitN ?_ ?_ | refine condM_split ?_ ?_ | refine condM_any ?_ ?_ | intro _) | (simp [*, hilen]))
end Go.Proofs.YtlcimflkjfbaoaaGreat
namespace Go.Proofs.YtlcimflkjfbaoaaGreat
open Go Go.Fi
set_option maxRecDepth 20000
attribute [-simp] cEntries_drop2

/-! ### the document's book with an entry more -/
end Go.Proofs.YtlcimflkjfbaoaaGreat
namespace Go.Proofs.YtlcimflkjfbaoaaGreat
open Go Go.Fi
set_option maxRecDepth 20000

/-! ### AccountPosts -/
theorem postS_in {b : Book} (hb : BookIn b) {x : Entry} (hx : EntryIn x) (h : b.entries.length < 9000) : BookIn (postS b x) := by
  have hat := postAt_le x.date b.entries
  refine ⟨hb.accs, ?_, fun k hk => ?_⟩
  · unfold postS; dsimp only; rw [insAt_one _ _ _ hat]; omega
  · unfold postS at hk ⊢
    dsimp only at hk ⊢
    have hm : nth (insAt b.entries (postAt x.date b.entries) [x]) k ∈ insAt b.entries (postAt x.date b.entries) [x] := by
      simp only [nth, List.getD_eq_getElem?_getD, List.getElem?_eq_getElem hk, Option.getD_some]
      exact List.getElem_mem hk
    generalize nth (insAt b.entries (postAt x.date b.entries) [x]) k = y at *
    unfold insAt at hm
    simp only [List.mem_append, List.mem_singleton] at hm
    have hent : ∀ y ∈ b.entries, EntryIn y := fun y hy => by
      obtain ⟨j, hj, rfl⟩ := mem_nth hy
      exact hb.ent j hj
    rcases hm with (hm | rfl) | hm
    · exact hent y (List.mem_of_mem_take hm)
    · exact hx
    · exact hent y (List.mem_of_mem_drop hm)
end Go.Proofs.YtlcimflkjfbaoaaGreat

