/- Contracts of functions for this claim: lemmas alone. -/
import Derived.Test.YtacepceplonceaaP32
import Derived.Test.YtacepceplonceaaP30
import Derived.Test.YtacepceplonceaaLj
set_option linter.unusedSimpArgs false
set_option linter.unusedVariables false
namespace Go.Proofs.Ytacepceplonceaa
open Go Go.Fi

theorem cloneTexts_c (l : List ByteArray) (h : l.length < 100000) : RealCall Try.prog 32 [.sl l.length (strs l)] (.sl l.length (strs l)) true := by
  refine realcall_intro Try.func32 (by kernel_rfl) rfl (Nat.le_of_ble_eq_true (by kernel_rfl)) ?_
  simp only [Try.results32, Try.ntmps32]
  refine awp_seq ?_
  refine awp_region ?_
  simp
  refine awp_seq ?_
  refine awp_seq ?_
  refine awp_nil (ow := false) (fl := false) (k := l.length) (cells := strs l) Try.underlying22 ?_ ?_ ?_ ?_
  · simp
  · decide
  · decide
  intro b hb
  cases b with
  | true =>
    have hl : l = [] := List.eq_nil_of_length_eq_zero (hb rfl).1
    subst hl
    repeat' (first | (with_reducible first | refine awp_seq ?_ | refine awp_blockS ?_ | refine awp_blockC ?_ | refine awp_blockR ?_ | refine awp_skip ?_ | refine awp_ret ?_ | refine awp_exit ?_ | refine awp_region ?_ | refine awp_condM ?_ | refine And.intro ?_ ?_ | refine gM_splitN ?_ ?_ | refine gM_split ?_ ?_ | refine condM_splitDN ?_ ?_ | refine condM_splitD ?_ ?_ | refine condM_splitN ?_ ?_ | refine condM_split ?_ ?_ | refine condM_any ?_ ?_ | intro _) | (simp [*, strs]))
  | false =>
    clear hb
    repeat' (first | (with_reducible first | refine awp_seq ?_ | refine awp_blockS ?_ | refine awp_blockC ?_ | refine awp_blockR ?_ | refine awp_skip ?_ | refine awp_ret ?_ | refine awp_exit ?_ | refine awp_region ?_ | refine awp_condM ?_ | refine And.intro ?_ ?_ | refine gM_splitN ?_ ?_ | refine gM_split ?_ ?_ | refine condM_splitDN ?_ ?_ | refine condM_splitD ?_ ?_ | refine condM_splitN ?_ ?_ | refine condM_split ?_ ?_ | refine condM_any ?_ ?_ | intro _) | (simp [*]))
    all_goals try omega
theorem clonePts_c (l : List Pt) (h : l.length < 100000) : RealCall Try.prog 33 [.sl l.length (cPts l)] (.sl l.length (cPts l)) true := by
  refine realcall_intro Try.func33 (by kernel_rfl) rfl (Nat.le_of_ble_eq_true (by kernel_rfl)) ?_
  simp only [Try.results33, Try.ntmps33]
  refine awp_seq ?_
  refine awp_region ?_
  simp
  refine awp_seq ?_
  refine awp_seq ?_
  refine awp_nil (ow := false) (fl := false) (k := l.length) (cells := cPts l) Try.underlying50 ?_ ?_ ?_ ?_
  · simp
  · decide
  · decide
  intro b hb
  cases b with
  | true =>
    have hl : l = [] := List.eq_nil_of_length_eq_zero (hb rfl).1
    subst hl
    repeat' (first | (with_reducible first | refine awp_seq ?_ | refine awp_blockS ?_ | refine awp_blockC ?_ | refine awp_blockR ?_ | refine awp_skip ?_ | refine awp_ret ?_ | refine awp_exit ?_ | refine awp_region ?_ | refine awp_condM ?_ | refine And.intro ?_ ?_ | refine gM_splitN ?_ ?_ | refine gM_split ?_ ?_ | refine condM_splitDN ?_ ?_ | refine condM_splitD ?_ ?_ | refine condM_splitN ?_ ?_ | refine condM_split ?_ ?_ | refine condM_any ?_ ?_ | intro _) | (simp [*, cPts]))
  | false =>
    clear hb
    repeat' (first | (with_reducible first | refine awp_seq ?_ | refine awp_blockS ?_ | refine awp_blockC ?_ | refine awp_blockR ?_ | refine awp_skip ?_ | refine awp_ret ?_ | refine awp_exit ?_ | refine awp_region ?_ | refine awp_condM ?_ | refine And.intro ?_ ?_ | refine gM_splitN ?_ ?_ | refine gM_split ?_ ?_ | refine condM_splitDN ?_ ?_ | refine condM_splitD ?_ ?_ | refine condM_splitN ?_ ?_ | refine condM_split ?_ ?_ | refine condM_any ?_ ?_ | intro _) | (simp [*]))
    all_goals try omega
end Go.Proofs.Ytacepceplonceaa
