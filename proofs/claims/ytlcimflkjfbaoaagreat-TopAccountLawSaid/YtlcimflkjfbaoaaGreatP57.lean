/- Contracts of functions for this claim: lemmas alone. -/
import Derived.Test.YtlcimflkjfbaoaaGreatP38
import Derived.Test.YtlcimflkjfbaoaaGreatP26
import Derived.Test.YtlcimflkjfbaoaaGreatLj
set_option linter.unusedSimpArgs false
set_option linter.unusedVariables false
namespace Go.Proofs.YtlcimflkjfbaoaaGreat
open Go Go.Fi
set_option maxRecDepth 20000
attribute [-simp] cEntries_drop2

/-! ### books in memory of their own, and months closed -/
theorem cloneLines_c (l : List Line) (h : l.length < 100000) : RealCall Tryz.prog 63 [.sl l.length (cLines l)] (.sl l.length (cLines l)) true := by
  refine realcall_intro Tryz.func63 (by kernel_rfl) rfl (Nat.le_of_ble_eq_true (by kernel_rfl)) ?_
  simp only [Tryz.results63, Tryz.ntmps63]
  refine awp_seq ?_
  refine awp_region ?_
  simp
  refine awp_seq ?_
  refine awp_seq ?_
  refine awp_nil (ow := false) (fl := false) (k := l.length) (cells := cLines l) Tryz.underlying52 ?_ ?_ ?_ ?_
  · simp
  · decide
  · decide
  intro b hb
  cases b with
  | true =>
    have hl : l = [] := List.eq_nil_of_length_eq_zero (hb rfl).1
    subst hl
    repeat' (first | (with_reducible first | refine awp_seq ?_ | refine awp_blockS ?_ | refine awp_blockC ?_ | refine awp_blockR ?_ | refine awp_skip ?_ | refine awp_ret ?_ | refine awp_exit ?_ | refine awp_region ?_ | refine awp_condM ?_ | refine And.intro ?_ ?_ | refine gE_splitN ?_ ?_ | refine gE_split ?_ ?_ | refine gQ_splitN ?_ ?_ | refine gQ_split ?_ ?_ | refine gM_splitN ?_ ?_ | refine gM_split ?_ ?_ | refine condM_splitDN ?_ ?_ | refine condM_splitD ?_ ?_ | refine condM_splitN ?_ ?_ | refine condM_split ?_ ?_ | refine condM_any ?_ ?_ | intro _) | (simp [*, cLines]))
  | false =>
    clear hb
    repeat' (first | (with_reducible first | refine awp_seq ?_ | refine awp_blockS ?_ | refine awp_blockC ?_ | refine awp_blockR ?_ | refine awp_skip ?_ | refine awp_ret ?_ | refine awp_exit ?_ | refine awp_region ?_ | refine awp_condM ?_ | refine And.intro ?_ ?_ | refine gE_splitN ?_ ?_ | refine gE_split ?_ ?_ | refine gQ_splitN ?_ ?_ | refine gQ_split ?_ ?_ | refine gM_splitN ?_ ?_ | refine gM_split ?_ ?_ | refine condM_splitDN ?_ ?_ | refine condM_splitD ?_ ?_ | refine condM_splitN ?_ ?_ | refine condM_split ?_ ?_ | refine condM_any ?_ ?_ | intro _) | (simp [*]))
    all_goals first | omega | (rename_i x hx; exact lines_flat l x hx)
theorem cloneAccs_c (l : List Acc) (h : l.length < 100000) : RealCall Tryz.prog 60 [.sl l.length (cAccs l)] (.sl l.length (cAccs l)) true := by
  refine realcall_intro Tryz.func60 (by kernel_rfl) rfl (Nat.le_of_ble_eq_true (by kernel_rfl)) ?_
  simp only [Tryz.results60, Tryz.ntmps60]
  refine awp_seq ?_
  refine awp_region ?_
  simp
  refine awp_seq ?_
  refine awp_seq ?_
  refine awp_nil (ow := false) (fl := false) (k := l.length) (cells := cAccs l) Tryz.underlying57 ?_ ?_ ?_ ?_
  · simp
  · decide
  · decide
  intro b hb
  cases b with
  | true =>
    have hl : l = [] := List.eq_nil_of_length_eq_zero (hb rfl).1
    subst hl
    repeat' (first | (with_reducible first | refine awp_seq ?_ | refine awp_blockS ?_ | refine awp_blockC ?_ | refine awp_blockR ?_ | refine awp_skip ?_ | refine awp_ret ?_ | refine awp_exit ?_ | refine awp_region ?_ | refine awp_condM ?_ | refine And.intro ?_ ?_ | refine gE_splitN ?_ ?_ | refine gE_split ?_ ?_ | refine gQ_splitN ?_ ?_ | refine gQ_split ?_ ?_ | refine gM_splitN ?_ ?_ | refine gM_split ?_ ?_ | refine condM_splitDN ?_ ?_ | refine condM_splitD ?_ ?_ | refine condM_splitN ?_ ?_ | refine condM_split ?_ ?_ | refine condM_any ?_ ?_ | intro _) | (simp [*, cAccs]))
  | false =>
    clear hb
    repeat' (first | (with_reducible first | refine awp_seq ?_ | refine awp_blockS ?_ | refine awp_blockC ?_ | refine awp_blockR ?_ | refine awp_skip ?_ | refine awp_ret ?_ | refine awp_exit ?_ | refine awp_region ?_ | refine awp_condM ?_ | refine And.intro ?_ ?_ | refine gE_splitN ?_ ?_ | refine gE_split ?_ ?_ | refine gQ_splitN ?_ ?_ | refine gQ_split ?_ ?_ | refine gM_splitN ?_ ?_ | refine gM_split ?_ ?_ | refine condM_splitDN ?_ ?_ | refine condM_splitD ?_ ?_ | refine condM_splitN ?_ ?_ | refine condM_split ?_ ?_ | refine condM_any ?_ ?_ | intro _) | (simp [*]))
    all_goals first | omega | (rename_i x hx; exact accs_flat l x hx)
theorem copied_c (e : Entry) (h : e.lines.length < 100000) : RealCall Tryz.prog 38 [.agg (cEntry e)] (.agg (cEntry e)) true := by
  have c1 := cloneLines_c e.lines h
  unfold cEntry
  refine realcall_intro Tryz.func38 (by kernel_rfl) rfl (Nat.le_of_ble_eq_true (by kernel_rfl)) ?_
  simp only [Tryz.results38, Tryz.ntmps38]
  repeat' (first | (with_reducible first | refine awp_seq ?_ | refine awp_blockS ?_ | refine awp_blockC ?_ | refine awp_blockR ?_ | refine awp_skip ?_ | refine awp_ret ?_ | refine awp_exit ?_ | refine awp_region ?_ | refine awp_condM ?_ | refine And.intro ?_ ?_ | apply gQ_merge | apply gE_merge | exact EqV_w | exact EqE_w | exact EqV_ptr | exact EqE_ptr | exact EqV_msl | exact EqE_msl | exact EqV_agg | exact EqE_agg | exact EqV_fn | exact EqE_fn | exact EqV_gd | exact EqE_gd | refine gM_splitN ?_ ?_ | refine gM_split ?_ ?_ |  refine condM_splitDN ?_ ?_ | refine condM_splitD ?_ ?_ | refine condM_splitN ?_ ?_ | refine condM_split ?_ ?_ | refine condM_any ?_ ?_ | refine cw (c1) ?_ | intro _) | (simp [*]) | (refine cw_eq (c1) ?_ ?_; (· (simp [*]; done))))
/-! an entry that may not be posted -/
def postE (b : Book) (x : Entry) : Int := firstS [(entryS b.accs x).2, errUnless (decide (b.closed ≤ x.date.tdiv 30)) 22, errUnless (decide ((b.entries.length : Int) < 100)) 16]
end Go.Proofs.YtlcimflkjfbaoaaGreat

