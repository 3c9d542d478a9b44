/- Contracts of functions for this claim: lemmas alone. -/
import Derived.Test.YtdgbfbgnbgfmjaaGreatDoorP85
import Derived.Test.YtdgbfbgnbgfmjaaGreatDoorP41
set_option linter.unusedSimpArgs false
set_option linter.unusedVariables false
namespace Go.Proofs.YtdgbfbgnbgfmjaaGreatDoor
open Go Go.Fi
set_option maxRecDepth 20000
attribute [-simp] cEntries_drop2

/-! ### a book with an entry more -/
theorem cEntries_app (a b : List Entry) : cEntries (a ++ b) = cEntries a ++ cEntries b := by simp [cEntries, List.flatMap_append]
theorem ins_cells (l : List Entry) (x : Entry) (at_ : Nat) : insAt ((cEntries l).map (AV.w true false)) (at_ * 3) ((cEntry x).map (AV.w true false)) = (cEntries (insAt l at_ [x])).map (AV.w true false) := by
  unfold insAt
  rw [cEntries_app, cEntries_app, ← List.map_take, ← List.map_drop, List.map_append, List.map_append, cEntries_take, cEntries_drop2]
  simp [cEntries]
theorem insAt_one {α : Type} (l : List α) (x : α) (p : Nat) (h : p ≤ l.length) : (insAt l p [x]).length = l.length + 1 := by
  rw [insAt_len _ _ _ h]; rfl
theorem ents_ones : ∀ l : List Entry, ones ((cEntries l).map (AV.w true false)) = true
  | [] => rfl
  | x :: r => by
    have ih := ents_ones r
    show (AV.one (.w true false (.int .i64 x.date)) && (AV.one (.w true false (.str x.note)) && (AV.one (.w true false (.sl x.lines.length (cLines x.lines))) && ones ((cEntries r).map (AV.w true false))))) = true
    rw [ih]; rfl
def postS (b : Book) (x : Entry) : Book := ⟨b.accs, insAt b.entries (postAt x.date b.entries) [x], b.closed⟩
set_option maxHeartbeats 8000000 in
theorem post_ok (b : Book) (hb : BookIn b) (x : Entry) (hx : EntryIn x) (h0 : (bookS b).2 = 0) (h : postE b x = 0) : RealCall Tryz.prog 70 [.agg (cBook b), .agg (cEntry x)] (.tup [.agg (cBook (postS b x)), .int .i64 0]) true := by
  have c1 := open_c b hb
  rw [h0] at c1
  have he := firstS_zero h (entryS b.accs x).2 (by simp)
  have hd := headE_zero (entryS_zero he).1
  have hd1 := hd.1
  have hq : 0 ≤ x.date.tdiv 30 ∧ x.date.tdiv 30 ≤ 100000 := by rw [Int.tdiv_eq_ediv_of_nonneg hd1]; omega
  obtain ⟨hq1, hq2⟩ := hq
  have hal := hb.accs.len
  have hl := hb.len
  have c2 := entry_c b.accs (by omega) x hx
  unfold pairI at c2
  rw [he] at c2
  have c5 := first3_c (entryS b.accs x).2 (errUnless (decide (b.closed ≤ x.date.tdiv 30)) 22) (errUnless (decide ((b.entries.length : Int) < 100)) 16)
  change RealCall _ _ _ (.int .i64 (postE b x)) true at c5
  rw [h, he] at c5
  have cc := copiedBook_mk b hb
  have cs := search_c b.entries.length (by omega) 129 [.ip (cBook b) 0, .ip (cEntry x) 0] (fun k => decide (x.date < (nth b.entries k).date)) (fun k hk => post1_c b x k hk)
  rw [search_at x.date b.entries (bookS_sorted h0)] at cs
  have cx := copied_c x (by have := hx.len; omega)
  have hat := postAt_le x.date b.entries
  have hcells := ins_cells b.entries x (postAt x.date b.entries)
  have hilen := insAt_one b.entries x (postAt x.date b.entries) hat
  unfold postS
  generalize hIL : insAt b.entries (postAt x.date b.entries) [x] = IL at *
  generalize postAt x.date b.entries = at_ at *
  generalize (entryS b.accs x).1 = Y at *
  rw [entsA_all] at cc
  clear hIL hb h0 hx h he hd hd1
  obtain ⟨ba, be, bc⟩ := b
  obtain ⟨xd, xn, xl⟩ := x
  unfold cBook cEntry at *
  dsimp only at *
  have kcells := keep hcells
  clear hcells
  refine realcall_intro Tryz.func70 (by kernel_rfl) rfl (Nat.le_of_ble_eq_true (by kernel_rfl)) ?_
  simp only [Tryz.results70, Tryz.ntmps70]
  repeat' (first | (with_reducible first | refine awp_regionDE (id := 10) 6 mixed (by decide +kernel) (by decide) rfl ?_ | refine awp_seq ?_ | refine awp_blockS ?_ | refine awp_blockC ?_ | refine awp_blockR ?_ | refine awp_skip ?_ | refine awp_ret ?_ | refine awp_exit ?_ | refine awp_region ?_ | refine awp_regionD (id := 5) 15 mixed (by decide +kernel) ?_ | refine awp_regionD (id := 10) 8 mixed (by decide +kernel) ?_ | refine awp_condM ?_ | refine And.intro ?_ ?_ | apply gQ_merge | apply gE_merge | exact EqV_w | exact EqE_w | exact EqV_ptr | exact EqE_ptr | exact EqV_msl | exact EqE_msl | exact EqV_agg | exact EqE_agg | exact EqV_fn | exact EqE_fn | exact EqV_gd | exact EqE_gd | refine gM_splitN ?_ ?_ | refine gM_split ?_ ?_ |  refine condM_splitDN ?_ ?_ | refine condM_splitD ?_ ?_ | refine condM_splitN ?_ ?_ | refine condM_split ?_ ?_ | refine condM_any ?_ ?_ | refine cw (c1) ?_ | refine cw (c2) ?_ | refine cw (c5) ?_ | refine cw (unless_c _ _) ?_ | refine cwM (cc) ?_ | refine cw (cs) ?_ | refine cw (cx) ?_ | intro _) | (simp [*]) | (refine cw_eq (c1) ?_ ?_; (· (simp [*]; done))) | (refine cw_eq (c2) ?_ ?_; (· (simp [*]; done))) | (refine cw_eq (c5) ?_ ?_; (· (simp [*]; done))) | (refine cw_eq (unless_c _ _) ?_ ?_; (· (simp [*]; done))) | (refine cw_eq (cs) ?_ ?_; (· (simp [*]; done))) | (refine cw_eq (cx) ?_ ?_; (· (simp [*]; done))))
  all_goals try first | exact inI64 (by omega) (by omega) | omega
  have hc2 : insAt ((cEntries be).map (AV.w true false)) (at_ * 3) [.w true false (.int .i64 xd), .w true false (.str xn), .w true false (.sl xl.length (cLines xl))] = (cEntries IL).map (AV.w true false) := kcells
  refine ecallM_intro (id := 5) (c := (cEntries IL).map (AV.w true false)) (v := .msl 5 ((be.length + 1) * 3) 3 0 (be.length + 1)) (by simp) rfl ?_ ?_
  · rw [← hc2]
    refine insert_e (cells := (cEntries be).map (AV.w true false)) (news := [.w true false (.int .i64 xd), .w true false (.str xn), .w true false (.sl xl.length (cLines xl))]) ?_ ?_ ?_ rfl (by decide) hat (by omega) ?_ rfl
    all_goals first | exact ents_ones _ | (simp; done) | rfl
  · clear c1 c2 c5 cc cs cx hc2 kcells
    repeat' (first | (with_reducible first | refine awp_seq ?_ | refine awp_blockS ?_ | refine awp_blockC ?_ | refine awp_blockR ?_ | refine awp_skip ?_ | refine awp_ret ?_ | refine awp_exit ?_ | refine awp_region ?_ | refine awp_regionD (id := 5) 15 mixed (by decide +kernel) ?_ | refine awp_regionD (id := 10) 8 mixed (by decide +kernel) ?_ | refine awp_condM ?_ | refine And.intro ?_ ?_ | apply gQ_merge | apply gE_merge | exact EqV_w | exact EqE_w | exact EqV_ptr | exact EqE_ptr | exact EqV_msl | exact EqE_msl | exact EqV_agg | exact EqE_agg | exact EqV_fn | exact EqE_fn | exact EqV_gd | exact EqE_gd | refine gM_splitN ?_ ?_ | refine gM_split ?_ ?_ |  refine condM_splitDN ?_ ?_ | refine condM_splitD ?_ ?_ | refine condM_splitN ?_ ?_ | refine condM_split ?_ ?_ | refine condM_any ?_ ?_ | intro _) | (simp [*, hilen]))
end Go.Proofs.YtdgbfbgnbgfmjaaGreatDoor
namespace Go.Proofs.YtdgbfbgnbgfmjaaGreatDoor
open Go Go.Fi
set_option maxRecDepth 20000
attribute [-simp] cEntries_drop2

/-! ### the document's book with an entry more -/
theorem rPost_state (b : Book) (x : Entry) (hd : 0 ≤ x.date ∧ x.date ≤ 100000) (h : x.date.tdiv 30 < b.closed) : RealCall Tryz.prog 72 [.agg (cBook b), .agg (cEntry x)] (.tup [.agg [.sl 0 [], .sl 0 [], .int .i64 0], .int .i64 22]) true := by
  obtain ⟨hd1, hd2⟩ := hd
  have hq : 0 ≤ x.date.tdiv 30 ∧ x.date.tdiv 30 ≤ 100000 := by rw [Int.tdiv_eq_ediv_of_nonneg hd1]; omega
  obtain ⟨hq1, hq2⟩ := hq
  obtain ⟨ba, be, bc⟩ := b
  obtain ⟨xd, xn, xl⟩ := x
  unfold cBook cEntry
  dsimp only at *
  refine realcall_intro Tryz.func72 (by kernel_rfl) rfl (Nat.le_of_ble_eq_true (by kernel_rfl)) ?_
  simp only [Tryz.results72, Tryz.ntmps72]
  repeat' (first | (with_reducible first | refine awp_seq ?_ | refine awp_blockS ?_ | refine awp_blockC ?_ | refine awp_blockR ?_ | refine awp_skip ?_ | refine awp_ret ?_ | refine awp_exit ?_ | refine awp_region ?_ | refine awp_regionD (id := 6) 16 mixed (by decide +kernel) ?_ | refine awp_condM ?_ | refine And.intro ?_ ?_ | apply gQ_merge | apply gE_merge | exact EqV_w | exact EqE_w | exact EqV_ptr | exact EqE_ptr | exact EqV_msl | exact EqE_msl | exact EqV_agg | exact EqE_agg | exact EqV_fn | exact EqE_fn | exact EqV_gd | exact EqE_gd | refine gM_splitN ?_ ?_ | refine gM_split ?_ ?_ |  refine condM_splitDN ?_ ?_ | refine condM_splitD ?_ ?_ | refine condM_splitN ?_ ?_ | refine condM_split ?_ ?_ | refine condM_any ?_ ?_ | intro _) | (simp [*, h]))
  all_goals try first | exact inI64 (by omega) (by omega) | omega
theorem rPost_full (b : Book) (x : Entry) (hd : 0 ≤ x.date ∧ x.date ≤ 100000) (h : ¬ x.date.tdiv 30 < b.closed) (h2 : 100 ≤ (b.entries.length : Int)) : RealCall Tryz.prog 72 [.agg (cBook b), .agg (cEntry x)] (.tup [.agg [.sl 0 [], .sl 0 [], .int .i64 0], .int .i64 16]) true := by
  obtain ⟨hd1, hd2⟩ := hd
  have hq : 0 ≤ x.date.tdiv 30 ∧ x.date.tdiv 30 ≤ 100000 := by rw [Int.tdiv_eq_ediv_of_nonneg hd1]; omega
  obtain ⟨hq1, hq2⟩ := hq
  obtain ⟨ba, be, bc⟩ := b
  obtain ⟨xd, xn, xl⟩ := x
  unfold cBook cEntry
  dsimp only at *
  refine realcall_intro Tryz.func72 (by kernel_rfl) rfl (Nat.le_of_ble_eq_true (by kernel_rfl)) ?_
  simp only [Tryz.results72, Tryz.ntmps72]
  repeat' (first | (with_reducible first | refine awp_seq ?_ | refine awp_blockS ?_ | refine awp_blockC ?_ | refine awp_blockR ?_ | refine awp_skip ?_ | refine awp_ret ?_ | refine awp_exit ?_ | refine awp_region ?_ | refine awp_regionD (id := 6) 16 mixed (by decide +kernel) ?_ | refine awp_condM ?_ | refine And.intro ?_ ?_ | apply gQ_merge | apply gE_merge | exact EqV_w | exact EqE_w | exact EqV_ptr | exact EqE_ptr | exact EqV_msl | exact EqE_msl | exact EqV_agg | exact EqE_agg | exact EqV_fn | exact EqE_fn | exact EqV_gd | exact EqE_gd | refine gM_splitN ?_ ?_ | refine gM_split ?_ ?_ |  refine condM_splitDN ?_ ?_ | refine condM_splitD ?_ ?_ | refine condM_splitN ?_ ?_ | refine condM_split ?_ ?_ | refine condM_any ?_ ?_ | intro _) | (simp [*, h, h2]))
  all_goals try first | exact inI64 (by omega) (by omega) | omega
set_option maxHeartbeats 8000000 in
theorem rPost_ok (b : Book) (hb : BookIn b) (x : Entry) (hx : EntryIn x) (hd : 0 ≤ x.date ∧ x.date ≤ 100000) (h : ¬ x.date.tdiv 30 < b.closed) (h2 : ¬ 100 ≤ (b.entries.length : Int)) : RealCall Tryz.prog 72 [.agg (cBook b), .agg (cEntry x)] (.tup [.agg (cBook (postS b x)), .int .i64 0]) true := by
  obtain ⟨hd1, hd2⟩ := hd
  have hq : 0 ≤ x.date.tdiv 30 ∧ x.date.tdiv 30 ≤ 100000 := by rw [Int.tdiv_eq_ediv_of_nonneg hd1]; omega
  obtain ⟨hq1, hq2⟩ := hq
  have hl := hb.len
  have hent := hb.ent
  have c1 := copyBook_c b hb
  have hat := postAt_le x.date b.entries
  have hlo := keep (postAt_lo x.date b.entries)
  have hhi := keep (postAt_hi x.date b.entries)
  have hcells := ins_cells b.entries x (postAt x.date b.entries)
  have hilen := insAt_one b.entries x (postAt x.date b.entries) hat
  have c2 := copyEntries_mk (b.entries.take (postAt x.date b.entries)) (by rw [List.length_take]; omega) (fun k hk => by
    rw [take_len _ _ hat] at hk
    rw [show nth (b.entries.take (postAt x.date b.entries)) k = nth b.entries k by simp [nth, List.getD_eq_getElem?_getD, List.getElem?_take, hk]]
    exact hent k (by omega))
  have c3 := copyEntries_c (b.entries.drop (postAt x.date b.entries)) (by rw [List.length_drop]; omega) (fun k hk => by
    rw [List.length_drop] at hk
    rw [show nth (b.entries.drop (postAt x.date b.entries)) k = nth b.entries (postAt x.date b.entries + k) by simp [nth, List.getD_eq_getElem?_getD, List.getElem?_drop]]
    exact hent _ (by omega))
  have c4 := copyEntry_c x (by have := hx.len; omega)
  rw [take_len _ _ hat] at c2
  rw [List.length_drop] at c3
  have hdrop := cEntries_drop2 b.entries (postAt x.date b.entries)
  have hea : entsA (b.entries.take (postAt x.date b.entries)) (postAt x.date b.entries) = (cEntries (b.entries.take (postAt x.date b.entries))).map (.w true false) := by
    unfold entsA
    rw [List.take_take, Nat.min_self]
  rw [hea] at c2
  have htl := take_len _ _ hat
  unfold postS
  generalize hIL : insAt b.entries (postAt x.date b.entries) [x] = IL at *
  generalize hatd : postAt x.date b.entries = at_ at *
  clear hIL hb hx hent hatd hea
  obtain ⟨ba, be, bc⟩ := b
  obtain ⟨xd, xn, xl⟩ := x
  unfold cBook cEntry at *
  dsimp only at *
  have kcells := keep hcells
  clear hcells
  refine realcall_intro Tryz.func72 (by kernel_rfl) rfl (Nat.le_of_ble_eq_true (by kernel_rfl)) ?_
  simp only [Tryz.results72, Tryz.ntmps72]
  repeat' (first | (with_reducible first | refine awp_seq ?_ | refine awp_blockS ?_ | refine awp_blockC ?_ | refine awp_blockR ?_ | refine awp_skip ?_ | refine awp_ret ?_ | refine awp_exit ?_ | refine awp_region ?_ | refine awp_regionD (id := 6) 16 mixed (by decide +kernel) ?_ | refine awp_condM ?_ | refine And.intro ?_ ?_ | apply gQ_merge | apply gE_merge | exact EqV_w | exact EqE_w | exact EqV_ptr | exact EqE_ptr | exact EqV_msl | exact EqE_msl | exact EqV_agg | exact EqE_agg | exact EqV_fn | exact EqE_fn | exact EqV_gd | exact EqE_gd | refine gM_splitN ?_ ?_ | refine gM_split ?_ ?_ |  refine condM_splitDN ?_ ?_ | refine condM_splitD ?_ ?_ | refine condM_splitN ?_ ?_ | refine condM_split ?_ ?_ | refine condM_any ?_ ?_ | intro _) | (simp [*, h, h2]))
  all_goals try first | exact inI64 (by omega) (by omega) | omega
  refine awp_for3 (fun (k : Nat) => k ≤ at_) [2, 3, 4] (fun (k : Nat) => [(6, .w false false (.int .i64 k))]) [0, 1, 2] (fun (k : Nat) => []) (fun (k : Nat) => at_ - k) (fun (_u : Unit) => True) [2, 3, 4] (fun (_u : Unit) => [(6, .w false false (.int .i64 at_))]) [0, 1, 2] (fun (_u : Unit) => []) (0) (Nat.zero_le _) (by simp) (by simp) (fun k hk => ?_) (fun _u hf => ?_)
  · by_cases hlt : k < be.length
    · by_cases hka : k < at_
      · have hdk := (show ∀ k, k < at_ → (nth be k).date ≤ xd from hlo) k hka
        clear hlo hhi kcells c1 c2 c3 c4
        repeat' (first | (with_reducible first | refine awp_seq ?_ | refine awp_blockS ?_ | refine awp_blockC ?_ | refine awp_blockR ?_ | refine awp_skip ?_ | refine awp_ret ?_ | refine awp_exit ?_ | refine awp_region ?_ | refine awp_regionD (id := 6) 16 mixed (by decide +kernel) ?_ | refine awp_condM ?_ | refine And.intro ?_ ?_ | apply gQ_merge | apply gE_merge | exact EqV_w | exact EqE_w | exact EqV_ptr | exact EqE_ptr | exact EqV_msl | exact EqE_msl | exact EqV_agg | exact EqE_agg | exact EqV_fn | exact EqE_fn | exact EqV_gd | exact EqE_gd | refine gM_splitN ?_ ?_ | refine gM_split ?_ ?_ |  refine condM_splitDN ?_ ?_ | refine condM_splitD ?_ ?_ | refine condM_splitN ?_ ?_ | refine condM_split ?_ ?_ | refine condM_any ?_ ?_ | intro _) | (simp [*, hlt, hdk]))
        all_goals try first | exact inI64 (by omega) (by omega) | omega
        all_goals (refine loopK_normal _ _ _ _ _ (k + 1) _ ?_ (by first | omega | (dsimp only; omega) | (simp; omega)) ?_; (· omega); (refine le_of ?_ ?_ <;> first | trivial | (simp [*]; done)))
      · have hke : k = at_ := by omega
        subst hke
        have hdk : ¬ (nth be k).date ≤ xd := by have := (show k < be.length → xd < (nth be k).date from hhi) hlt; omega
        clear hlo hhi kcells c1 c2 c3 c4
        repeat' (first | (with_reducible first | refine awp_seq ?_ | refine awp_blockS ?_ | refine awp_blockC ?_ | refine awp_blockR ?_ | refine awp_skip ?_ | refine awp_ret ?_ | refine awp_exit ?_ | refine awp_region ?_ | refine awp_regionD (id := 6) 16 mixed (by decide +kernel) ?_ | refine awp_condM ?_ | refine And.intro ?_ ?_ | apply gQ_merge | apply gE_merge | exact EqV_w | exact EqE_w | exact EqV_ptr | exact EqE_ptr | exact EqV_msl | exact EqE_msl | exact EqV_agg | exact EqE_agg | exact EqV_fn | exact EqE_fn | exact EqV_gd | exact EqE_gd | refine gM_splitN ?_ ?_ | refine gM_split ?_ ?_ |  refine condM_splitDN ?_ ?_ | refine condM_splitD ?_ ?_ | refine condM_splitN ?_ ?_ | refine condM_split ?_ ?_ | refine condM_any ?_ ?_ | intro _) | (simp [*, hlt, hdk]))
        all_goals (refine finW_intro () ?_ ?_; (· trivial); (refine le_of ?_ ?_ <;> first | trivial | (simp [*]; done)))
    · have hke : k = at_ := by omega
      subst hke
      clear hlo hhi kcells c1 c2 c3 c4
      repeat' (first | (with_reducible first | refine awp_seq ?_ | refine awp_blockS ?_ | refine awp_blockC ?_ | refine awp_blockR ?_ | refine awp_skip ?_ | refine awp_ret ?_ | refine awp_exit ?_ | refine awp_region ?_ | refine awp_regionD (id := 6) 16 mixed (by decide +kernel) ?_ | refine awp_condM ?_ | refine And.intro ?_ ?_ | apply gQ_merge | apply gE_merge | exact EqV_w | exact EqE_w | exact EqV_ptr | exact EqE_ptr | exact EqV_msl | exact EqE_msl | exact EqV_agg | exact EqE_agg | exact EqV_fn | exact EqE_fn | exact EqV_gd | exact EqE_gd | refine gM_splitN ?_ ?_ | refine gM_split ?_ ?_ |  refine condM_splitDN ?_ ?_ | refine condM_splitD ?_ ?_ | refine condM_splitN ?_ ?_ | refine condM_split ?_ ?_ | refine condM_any ?_ ?_ | intro _) | (simp [*, hlt]))
      all_goals (refine finW_intro () ?_ ?_; (· trivial); (refine le_of ?_ ?_ <;> first | trivial | (simp [*]; done)))
  · clear hlo hhi
    have hd3 : List.take (be.length - at_) (List.drop at_ be) = List.drop at_ be := List.take_of_length_le (by rw [List.length_drop]; omega)
    have hc2 : (cEntries (be.take at_)).map (AV.w true false) ++ (.w true false (.int .i64 xd) :: .w true false (.str xn) :: .w true false (.sl xl.length (cLines xl)) :: (cEntries (be.drop at_)).map (AV.w true false)) = (cEntries IL).map (AV.w true false) := by
      have hk := (show insAt ((cEntries be).map (AV.w true false)) (at_ * 3) [.w true false (.int .i64 xd), .w true false (.str xn), .w true false (.sl xl.length (cLines xl))] = (cEntries IL).map (AV.w true false) from kcells)
      unfold insAt at hk
      rw [← List.map_take, ← List.map_drop, cEntries_take, cEntries_drop2, List.append_assoc] at hk
      exact hk
    have e3 : at_ * 3 + 3 = (at_ + 1) * 3 := by omega
    have e4 : at_ + 1 + (be.length - at_) = be.length + 1 := by omega
    repeat' (first | (with_reducible first | refine awp_regionS (id := 9) [0, 1, 2, 3, 4, 5, 6, 7, 9, 10, 11, 12, 13, 15] [8, 14, 16] [[], [], [], [], [], [], [], [], [.new 0], [.new 0], [.new 0], [.new 0], [.new 0], [.new 0]] [[.new 0], [.new 0], [.slot 7]] mixed (by decide +kernel) ?_ | refine awp_seq ?_ | refine awp_blockS ?_ | refine awp_blockC ?_ | refine awp_blockR ?_ | refine awp_skip ?_ | refine awp_ret ?_ | refine awp_exit ?_ | refine awp_region ?_ | refine awp_regionD (id := 6) 16 mixed (by decide +kernel) ?_ | refine awp_condM ?_ | refine And.intro ?_ ?_ | apply gQ_merge | apply gE_merge | exact EqV_w | exact EqE_w | exact EqV_ptr | exact EqE_ptr | exact EqV_msl | exact EqE_msl | exact EqV_agg | exact EqE_agg | exact EqV_fn | exact EqE_fn | exact EqV_gd | exact EqE_gd | refine gM_splitN ?_ ?_ | refine gM_split ?_ ?_ |  refine condM_splitDN ?_ ?_ | refine condM_splitD ?_ ?_ | refine condM_splitN ?_ ?_ | refine condM_split ?_ ?_ | refine condM_any ?_ ?_ | refine cw (c1) ?_ | refine cwM (c2) ?_ | refine cw (c3) ?_ | refine cw (c4) ?_ | intro _) | (simp [*, hdrop, hd3, htl, hc2]) | (refine cw_eq (c1) ?_ ?_; (· (simp [*]; done))) | (refine cw_eq (c3) ?_ ?_; (· (simp [*]; done))) | (refine cw_eq (c4) ?_ ?_; (· (simp [*]; done))))
    all_goals first | exact ents_ones _ | exact inI64 (by omega) (by omega) | omega
end Go.Proofs.YtdgbfbgnbgfmjaaGreatDoor

