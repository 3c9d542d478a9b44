/- Contracts of functions for this claim: lemmas alone. -/
import Derived.Test.YtdgbfbgnbgfmjaaGreatDoorP38
import Derived.Test.YtdgbfbgnbgfmjaaGreatDoorP26
import Derived.Test.YtdgbfbgnbgfmjaaGreatDoorLj
import Derived.Test.YtdgbfbgnbgfmjaaGreatDoorP40
set_option linter.unusedSimpArgs false
set_option linter.unusedVariables false
namespace Go.Proofs.YtdgbfbgnbgfmjaaGreatDoor
open Go Go.Fi
set_option maxRecDepth 20000
attribute [-simp] cEntries_drop2

/-! ### books in memory of their own, and months closed -/
theorem cloneLines_c (l : List Line) (h : l.length < 100000) : RealCall Tryz.prog 166 [.sl l.length (cLines l)] (.sl l.length (cLines l)) true := by
  refine realcall_intro Tryz.func166 (by kernel_rfl) rfl (Nat.le_of_ble_eq_true (by kernel_rfl)) ?_
  simp only [Tryz.results166, Tryz.ntmps166]
  refine awp_seq ?_
  refine awp_region ?_
  simp
  refine awp_seq ?_
  refine awp_seq ?_
  refine awp_nil (ow := false) (fl := false) (k := l.length) (cells := cLines l) Tryz.underlying38 ?_ ?_ ?_ ?_
  · simp
  · decide
  · decide
  intro b hb
  cases b with
  | true =>
    have hl : l = [] := List.eq_nil_of_length_eq_zero (hb rfl).1
    subst hl
    repeat' (first | (with_reducible first | refine awp_seq ?_ | refine awp_blockS ?_ | refine awp_blockC ?_ | refine awp_blockR ?_ | refine awp_skip ?_ | refine awp_ret ?_ | refine awp_exit ?_ | refine awp_region ?_ | refine awp_condM ?_ | refine And.intro ?_ ?_ | refine gE_splitN ?_ ?_ | refine gE_split ?_ ?_ | refine gQ_splitN ?_ ?_ | refine gQ_split ?_ ?_ | refine gM_splitN ?_ ?_ | refine gM_split ?_ ?_ | refine condM_splitDN ?_ ?_ | refine condM_splitD ?_ ?_ | refine condM_splitN ?_ ?_ | refine condM_split ?_ ?_ | refine condM_any ?_ ?_ | intro _) | (simp [*, cLines]))
  | false =>
    clear hb
    repeat' (first | (with_reducible first | refine awp_seq ?_ | refine awp_blockS ?_ | refine awp_blockC ?_ | refine awp_blockR ?_ | refine awp_skip ?_ | refine awp_ret ?_ | refine awp_exit ?_ | refine awp_region ?_ | refine awp_condM ?_ | refine And.intro ?_ ?_ | refine gE_splitN ?_ ?_ | refine gE_split ?_ ?_ | refine gQ_splitN ?_ ?_ | refine gQ_split ?_ ?_ | refine gM_splitN ?_ ?_ | refine gM_split ?_ ?_ | refine condM_splitDN ?_ ?_ | refine condM_splitD ?_ ?_ | refine condM_splitN ?_ ?_ | refine condM_split ?_ ?_ | refine condM_any ?_ ?_ | intro _) | (simp [*]))
    all_goals first | omega | (rename_i x hx; exact lines_flat l x hx)
theorem cloneAccs_c (l : List Acc) (h : l.length < 100000) : RealCall Tryz.prog 163 [.sl l.length (cAccs l)] (.sl l.length (cAccs l)) true := by
  refine realcall_intro Tryz.func163 (by kernel_rfl) rfl (Nat.le_of_ble_eq_true (by kernel_rfl)) ?_
  simp only [Tryz.results163, Tryz.ntmps163]
  refine awp_seq ?_
  refine awp_region ?_
  simp
  refine awp_seq ?_
  refine awp_seq ?_
  refine awp_nil (ow := false) (fl := false) (k := l.length) (cells := cAccs l) Tryz.underlying37 ?_ ?_ ?_ ?_
  · simp
  · decide
  · decide
  intro b hb
  cases b with
  | true =>
    have hl : l = [] := List.eq_nil_of_length_eq_zero (hb rfl).1
    subst hl
    repeat' (first | (with_reducible first | refine awp_seq ?_ | refine awp_blockS ?_ | refine awp_blockC ?_ | refine awp_blockR ?_ | refine awp_skip ?_ | refine awp_ret ?_ | refine awp_exit ?_ | refine awp_region ?_ | refine awp_condM ?_ | refine And.intro ?_ ?_ | refine gE_splitN ?_ ?_ | refine gE_split ?_ ?_ | refine gQ_splitN ?_ ?_ | refine gQ_split ?_ ?_ | refine gM_splitN ?_ ?_ | refine gM_split ?_ ?_ | refine condM_splitDN ?_ ?_ | refine condM_splitD ?_ ?_ | refine condM_splitN ?_ ?_ | refine condM_split ?_ ?_ | refine condM_any ?_ ?_ | intro _) | (simp [*, cAccs]))
  | false =>
    clear hb
    repeat' (first | (with_reducible first | refine awp_seq ?_ | refine awp_blockS ?_ | refine awp_blockC ?_ | refine awp_blockR ?_ | refine awp_skip ?_ | refine awp_ret ?_ | refine awp_exit ?_ | refine awp_region ?_ | refine awp_condM ?_ | refine And.intro ?_ ?_ | refine gE_splitN ?_ ?_ | refine gE_split ?_ ?_ | refine gQ_splitN ?_ ?_ | refine gQ_split ?_ ?_ | refine gM_splitN ?_ ?_ | refine gM_split ?_ ?_ | refine condM_splitDN ?_ ?_ | refine condM_splitD ?_ ?_ | refine condM_splitN ?_ ?_ | refine condM_split ?_ ?_ | refine condM_any ?_ ?_ | intro _) | (simp [*]))
    all_goals first | omega | (rename_i x hx; exact accs_flat l x hx)
theorem copied_c (e : Entry) (h : e.lines.length < 100000) : RealCall Tryz.prog 131 [.agg (cEntry e)] (.agg (cEntry e)) true := by
  have c1 := cloneLines_c e.lines h
  unfold cEntry
  refine realcall_intro Tryz.func131 (by kernel_rfl) rfl (Nat.le_of_ble_eq_true (by kernel_rfl)) ?_
  simp only [Tryz.results131, Tryz.ntmps131]
  repeat' (first | (with_reducible first | refine awp_seq ?_ | refine awp_blockS ?_ | refine awp_blockC ?_ | refine awp_blockR ?_ | refine awp_skip ?_ | refine awp_ret ?_ | refine awp_exit ?_ | refine awp_region ?_ | refine awp_condM ?_ | refine And.intro ?_ ?_ | apply gQ_merge | apply gE_merge | exact EqV_w | exact EqE_w | exact EqV_ptr | exact EqE_ptr | exact EqV_msl | exact EqE_msl | exact EqV_agg | exact EqE_agg | exact EqV_fn | exact EqE_fn | exact EqV_gd | exact EqE_gd | refine gM_splitN ?_ ?_ | refine gM_split ?_ ?_ |  refine condM_splitDN ?_ ?_ | refine condM_splitD ?_ ?_ | refine condM_splitN ?_ ?_ | refine condM_split ?_ ?_ | refine condM_any ?_ ?_ | refine cw (c1) ?_ | intro _) | (simp [*]) | (refine cw_eq (c1) ?_ ?_; (· (simp [*]; done))))
set_option maxHeartbeats 4000000 in
theorem same_c (b : Book) (hb : BookIn b) : RealCall Tryz.prog 73 [.agg (cBook b), .agg (cBook b)] (.bool true) true := by
  have hal := hb.accs.len
  have hl := hb.len
  have he := hb.ent
  clear hb
  obtain ⟨ba, be, bc⟩ := b
  unfold cBook
  dsimp only at *
  have ke := keep he
  clear he
  refine realcall_intro Tryz.func73 (by kernel_rfl) rfl (Nat.le_of_ble_eq_true (by kernel_rfl)) ?_
  simp only [Tryz.results73, Tryz.ntmps73]
  repeat' (first | (with_reducible first | refine awp_seq ?_ | refine awp_blockS ?_ | refine awp_blockC ?_ | refine awp_blockR ?_ | refine awp_skip ?_ | refine awp_ret ?_ | refine awp_exit ?_ | refine awp_region ?_ | refine awp_regionD (id := 6) 11 mixed (by decide +kernel) ?_ | refine awp_regionD (id := 11) 12 mixed (by decide +kernel) ?_ | refine awp_condM ?_ | refine And.intro ?_ ?_ | apply gQ_merge | apply gE_merge | exact EqV_w | exact EqE_w | exact EqV_ptr | exact EqE_ptr | exact EqV_msl | exact EqE_msl | exact EqV_agg | exact EqE_agg | exact EqV_fn | exact EqE_fn | exact EqV_gd | exact EqE_gd | refine gM_splitN ?_ ?_ | refine gM_split ?_ ?_ |  refine condM_splitDN ?_ ?_ | refine condM_splitD ?_ ?_ | refine condM_splitN ?_ ?_ | refine condM_split ?_ ?_ | refine condM_any ?_ ?_ | intro _) | (simp [*]))
  refine awp_for3 (fun (k : Nat) => k ≤ ba.length) [2, 3] (fun (k : Nat) => [(5, .w false false (.int .i64 k))]) [0, 1] (fun (k : Nat) => []) (fun (k : Nat) => ba.length - k) (fun (_u : Unit) => True) [2, 3] (fun (_u : Unit) => []) [0, 1] (fun (_u : Unit) => []) (0) (Nat.zero_le _) (by simp) (by simp) (fun k hk => ?_) (fun _u hf => ?_)
  · by_cases hlt : k < ba.length
    · repeat' (first | (with_reducible first | refine awp_seq ?_ | refine awp_blockS ?_ | refine awp_blockC ?_ | refine awp_blockR ?_ | refine awp_skip ?_ | refine awp_ret ?_ | refine awp_exit ?_ | refine awp_region ?_ | refine awp_regionD (id := 6) 11 mixed (by decide +kernel) ?_ | refine awp_regionD (id := 11) 12 mixed (by decide +kernel) ?_ | refine awp_condM ?_ | refine And.intro ?_ ?_ | apply gQ_merge | apply gE_merge | exact EqV_w | exact EqE_w | exact EqV_ptr | exact EqE_ptr | exact EqV_msl | exact EqE_msl | exact EqV_agg | exact EqE_agg | exact EqV_fn | exact EqE_fn | exact EqV_gd | exact EqE_gd | refine gM_splitN ?_ ?_ | refine gM_split ?_ ?_ |  refine condM_splitDN ?_ ?_ | refine condM_splitD ?_ ?_ | refine condM_splitN ?_ ?_ | refine condM_split ?_ ?_ | refine condM_any ?_ ?_ | intro _) | (simp [*, hlt, cAcc]))
      all_goals first
        | exact inI64 (by omega) (by omega)
        | omega
        | (refine loopK_normal _ _ _ _ _ (k + 1) _ ?_ (by first | omega | (dsimp only; omega) | (simp; omega)) ?_; (· omega); (refine le_of ?_ ?_ <;> first | trivial | (simp [*]; done)))
        | skip
    · have hke : k = ba.length := by omega
      subst hke
      repeat' (first | (with_reducible first | refine awp_seq ?_ | refine awp_blockS ?_ | refine awp_blockC ?_ | refine awp_blockR ?_ | refine awp_skip ?_ | refine awp_ret ?_ | refine awp_exit ?_ | refine awp_region ?_ | refine awp_regionD (id := 6) 11 mixed (by decide +kernel) ?_ | refine awp_regionD (id := 11) 12 mixed (by decide +kernel) ?_ | refine awp_condM ?_ | refine And.intro ?_ ?_ | apply gQ_merge | apply gE_merge | exact EqV_w | exact EqE_w | exact EqV_ptr | exact EqE_ptr | exact EqV_msl | exact EqE_msl | exact EqV_agg | exact EqE_agg | exact EqV_fn | exact EqE_fn | exact EqV_gd | exact EqE_gd | refine gM_splitN ?_ ?_ | refine gM_split ?_ ?_ |  refine condM_splitDN ?_ ?_ | refine condM_splitD ?_ ?_ | refine condM_splitN ?_ ?_ | refine condM_split ?_ ?_ | refine condM_any ?_ ?_ | intro _) | (simp [*]))
      all_goals (refine finW_intro () ?_ ?_; (· trivial); (refine le_of ?_ ?_ <;> first | trivial | (simp [*]; done)))
  clear hf
  repeat' (first | (with_reducible first | refine awp_seq ?_ | refine awp_blockS ?_ | refine awp_blockC ?_ | refine awp_blockR ?_ | refine awp_skip ?_ | refine awp_ret ?_ | refine awp_exit ?_ | refine awp_region ?_ | refine awp_regionD (id := 6) 11 mixed (by decide +kernel) ?_ | refine awp_regionD (id := 11) 12 mixed (by decide +kernel) ?_ | refine awp_condM ?_ | refine And.intro ?_ ?_ | apply gQ_merge | apply gE_merge | exact EqV_w | exact EqE_w | exact EqV_ptr | exact EqE_ptr | exact EqV_msl | exact EqE_msl | exact EqV_agg | exact EqE_agg | exact EqV_fn | exact EqE_fn | exact EqV_gd | exact EqE_gd | refine gM_splitN ?_ ?_ | refine gM_split ?_ ?_ |  refine condM_splitDN ?_ ?_ | refine condM_splitD ?_ ?_ | refine condM_splitN ?_ ?_ | refine condM_split ?_ ?_ | refine condM_any ?_ ?_ | intro _) | (simp [*]))
  refine awp_for3 (fun (k : Nat) => k ≤ be.length) [2, 3] (fun (k : Nat) => [(6, .w false false (.int .i64 k))]) [0, 1] (fun (k : Nat) => []) (fun (k : Nat) => be.length - k) (fun (_u : Unit) => True) [] (fun (_u : Unit) => []) [] (fun (_u : Unit) => []) (0) (Nat.zero_le _) (by simp) (by simp) (fun k hk => ?_) (fun _u hf => ?_)
  · by_cases hlt : k < be.length
    · have hn := (show ∀ k, k < be.length → EntryIn (nth be k) from ke) k hlt
      have cs := sameEntry_c (nth be k) (by have := hn.len; omega)
      unfold cEntry at cs
      clear hn ke
      repeat' (first | (with_reducible first | refine awp_seq ?_ | refine awp_blockS ?_ | refine awp_blockC ?_ | refine awp_blockR ?_ | refine awp_skip ?_ | refine awp_ret ?_ | refine awp_exit ?_ | refine awp_region ?_ | refine awp_regionD (id := 6) 11 mixed (by decide +kernel) ?_ | refine awp_regionD (id := 11) 12 mixed (by decide +kernel) ?_ | refine awp_condM ?_ | refine And.intro ?_ ?_ | apply gQ_merge | apply gE_merge | exact EqV_w | exact EqE_w | exact EqV_ptr | exact EqE_ptr | exact EqV_msl | exact EqE_msl | exact EqV_agg | exact EqE_agg | exact EqV_fn | exact EqE_fn | exact EqV_gd | exact EqE_gd | refine gM_splitN ?_ ?_ | refine gM_split ?_ ?_ |  refine condM_splitDN ?_ ?_ | refine condM_splitD ?_ ?_ | refine condM_splitN ?_ ?_ | refine condM_split ?_ ?_ | refine condM_any ?_ ?_ | refine cw (cs) ?_ | intro _) | (simp [*, hlt, cEntry]) | (refine cw_eq (cs) ?_ ?_; (· (simp [*]; done))))
      all_goals first
        | exact inI64 (by omega) (by omega)
        | omega
        | (refine loopK_normal _ _ _ _ _ (k + 1) _ ?_ (by first | omega | (dsimp only; omega) | (simp; omega)) ?_; (· omega); (refine le_of ?_ ?_ <;> first | trivial | (simp [*]; done)))
        | skip
    · have hke : k = be.length := by omega
      subst hke
      clear ke
      repeat' (first | (with_reducible first | refine awp_seq ?_ | refine awp_blockS ?_ | refine awp_blockC ?_ | refine awp_blockR ?_ | refine awp_skip ?_ | refine awp_ret ?_ | refine awp_exit ?_ | refine awp_region ?_ | refine awp_regionD (id := 6) 11 mixed (by decide +kernel) ?_ | refine awp_regionD (id := 11) 12 mixed (by decide +kernel) ?_ | refine awp_condM ?_ | refine And.intro ?_ ?_ | apply gQ_merge | apply gE_merge | exact EqV_w | exact EqE_w | exact EqV_ptr | exact EqE_ptr | exact EqV_msl | exact EqE_msl | exact EqV_agg | exact EqE_agg | exact EqV_fn | exact EqE_fn | exact EqV_gd | exact EqE_gd | refine gM_splitN ?_ ?_ | refine gM_split ?_ ?_ |  refine condM_splitDN ?_ ?_ | refine condM_splitD ?_ ?_ | refine condM_splitN ?_ ?_ | refine condM_split ?_ ?_ | refine condM_any ?_ ?_ | intro _) | (simp [*]))
      all_goals (refine finW_intro () ?_ ?_; (· trivial); (refine le_of ?_ ?_ <;> first | trivial | (simp [*]; done)))
  · clear hf ke
    repeat' (first | (with_reducible first | refine awp_seq ?_ | refine awp_blockS ?_ | refine awp_blockC ?_ | refine awp_blockR ?_ | refine awp_skip ?_ | refine awp_ret ?_ | refine awp_exit ?_ | refine awp_region ?_ | refine awp_regionD (id := 6) 11 mixed (by decide +kernel) ?_ | refine awp_regionD (id := 11) 12 mixed (by decide +kernel) ?_ | refine awp_condM ?_ | refine And.intro ?_ ?_ | apply gQ_merge | apply gE_merge | exact EqV_w | exact EqE_w | exact EqV_ptr | exact EqE_ptr | exact EqV_msl | exact EqE_msl | exact EqV_agg | exact EqE_agg | exact EqV_fn | exact EqE_fn | exact EqV_gd | exact EqE_gd | refine gM_splitN ?_ ?_ | refine gM_split ?_ ?_ |  refine condM_splitDN ?_ ?_ | refine condM_splitD ?_ ?_ | refine condM_splitN ?_ ?_ | refine condM_split ?_ ?_ | refine condM_any ?_ ?_ | intro _) | (simp [*]))
theorem sameNo_c : RealCall Tryz.prog 73 [.agg [.sl 0 [], .sl 0 [], .int .i64 0], .agg [.sl 0 [], .sl 0 [], .int .i64 0]] (.bool true) true :=
  same_c ⟨[], [], 0⟩ ⟨⟨by decide, fun k hk => absurd hk (Nat.not_lt_zero _)⟩, by decide, fun k hk => absurd hk (Nat.not_lt_zero _)⟩
/-! an entry that may not be posted -/
def postE (b : Book) (x : Entry) : Int := firstS [(entryS b.accs x).2, errUnless (decide (b.closed ≤ x.date.tdiv 30)) 22, errUnless (decide ((b.entries.length : Int) < 100)) 16]
theorem post_book (b : Book) (hb : BookIn b) (x : Entry) (h : ¬ (bookS b).2 = 0) : RealCall Tryz.prog 70 [.agg (cBook b), .agg (cEntry x)] (.tup [.agg [.sl 0 [], .sl 0 [], .int .i64 0], .int .i64 (bookS b).2]) true := by
  have c1 := open_c b hb
  generalize (bookS b).2 = Y at *
  clear hb
  obtain ⟨ba, be, bc⟩ := b
  obtain ⟨xd, xn, xl⟩ := x
  unfold cBook cEntry at *
  dsimp only at *
  refine realcall_intro Tryz.func70 (by kernel_rfl) rfl (Nat.le_of_ble_eq_true (by kernel_rfl)) ?_
  simp only [Tryz.results70, Tryz.ntmps70]
  repeat' (first | (with_reducible first | refine awp_seq ?_ | refine awp_blockS ?_ | refine awp_blockC ?_ | refine awp_blockR ?_ | refine awp_skip ?_ | refine awp_ret ?_ | refine awp_exit ?_ | refine awp_region ?_ | refine awp_regionD (id := 5) 15 mixed (by decide +kernel) ?_ | refine awp_regionD (id := 10) 8 mixed (by decide +kernel) ?_ | refine awp_condM ?_ | refine And.intro ?_ ?_ | apply gQ_merge | apply gE_merge | exact EqV_w | exact EqE_w | exact EqV_ptr | exact EqE_ptr | exact EqV_msl | exact EqE_msl | exact EqV_agg | exact EqE_agg | exact EqV_fn | exact EqE_fn | exact EqV_gd | exact EqE_gd | refine gM_splitN ?_ ?_ | refine gM_split ?_ ?_ |  refine condM_splitDN ?_ ?_ | refine condM_splitD ?_ ?_ | refine condM_splitN ?_ ?_ | refine condM_split ?_ ?_ | refine condM_any ?_ ?_ | refine cw (c1) ?_ | intro _) | (simp [*, h]) | (refine cw_eq (c1) ?_ ?_; (· (simp [*]; done))))
end Go.Proofs.YtdgbfbgnbgfmjaaGreatDoor
namespace Go.Proofs.YtdgbfbgnbgfmjaaGreatDoor
open Go Go.Fi
set_option maxRecDepth 20000

/-! ### AccountCloses -/
theorem entryErr_c (l : List Acc) (hl : AccsIn l) (x : Entry) (hx : EntryIn x) : RealCall Tryz.prog 33 [.sl l.length (cAccs l), .agg (cEntry x)] (.int .i64 (entryAllS l x).2) true := by
  have c1 := rEntry_c l hl x hx
  unfold pairI at c1
  generalize entryAllS l x = q at *
  unfold cEntry at *
  refine realcall_intro Tryz.func33 (by kernel_rfl) rfl (Nat.le_of_ble_eq_true (by kernel_rfl)) ?_
  simp only [Tryz.results33, Tryz.ntmps33]
  repeat' (first | (with_reducible first | refine awp_seq ?_ | refine awp_blockS ?_ | refine awp_blockC ?_ | refine awp_blockR ?_ | refine awp_skip ?_ | refine awp_ret ?_ | refine awp_exit ?_ | refine awp_region ?_ | refine awp_condM ?_ | refine And.intro ?_ ?_ | apply gQ_merge | apply gE_merge | exact EqV_w | exact EqE_w | exact EqV_ptr | exact EqE_ptr | exact EqV_msl | exact EqE_msl | exact EqV_agg | exact EqE_agg | exact EqV_fn | exact EqE_fn | exact EqV_gd | exact EqE_gd | refine gM_splitN ?_ ?_ | refine gM_split ?_ ?_ |  refine condM_splitDN ?_ ?_ | refine condM_splitD ?_ ?_ | refine condM_splitN ?_ ?_ | refine condM_split ?_ ?_ | refine condM_any ?_ ?_ | refine cw (c1) ?_ | intro _) | (simp [*]) | (refine cw_eq (c1) ?_ ?_; (· (simp [*]; done))))
end Go.Proofs.YtdgbfbgnbgfmjaaGreatDoor

