/- Contracts of functions for this claim: lemmas alone. -/
import Derived.Test.YtpjhpmpbdfeajaaGreatDoorP24
import Derived.Test.YtpjhpmpbdfeajaaGreatDoorP18
import Derived.Test.YtpjhpmpbdfeajaaGreatDoorP21
import Derived.Test.YtpjhpmpbdfeajaaGreatDoorP20
set_option linter.unusedSimpArgs false
set_option linter.unusedVariables false
namespace Go.Proofs.YtpjhpmpbdfeajaaGreatDoor
open Go Go.Fi
set_option maxRecDepth 20000

/-! ### decisions, and the law's examples -/
theorem moneyE_zero {l : List Int} (h : moneyE l = 0) : ∀ x ∈ l, 0 ≤ x ∧ x ≤ 1000000000 := by
  unfold moneyE at h
  have h1 := unless_zero h (by decide)
  intro x hx
  by_cases hw : winB x 0 1000000000 = true
  · exact winB_iff.1 hw
  · rw [List.any_eq_true.2 ⟨x, hx, by simpa using hw⟩] at h1
    cases h1
def decH (c : Compl) : Int := firstS [dateE c.date, noteE c.note, moneyE [c.paid, c.lo, c.hi, c.slack], errUnless (decide (c.lo ≤ c.hi)) 9]
def decS (c : Compl) : Int × Int × Int := if decH c = 0 then (if c.paid - c.hi ≤ 0 then (0, 0, 0) else if c.paid - c.hi ≤ c.slack then (0, 1, 0) else (c.paid - c.hi, 2, 0)) else (0, 0, decH c)
theorem decH_zero {c : Compl} (h : decH c = 0) : (0 ≤ c.paid ∧ c.paid ≤ 1000000000) ∧ (0 ≤ c.hi ∧ c.hi ≤ 1000000000) := by
  have hz := moneyE_zero (firstS_zero h (moneyE [c.paid, c.lo, c.hi, c.slack]) (by simp))
  exact ⟨hz c.paid (by simp), hz c.hi (by simp)⟩
theorem decide_c (c : Compl) (hn : c.note.size < 1000000) : RealCall Tryz.prog 34 [.agg (cCompl c)] (.tup [.int .i64 (decS c).1, .int .i64 (decS c).2.1, .int .i64 (decS c).2.2]) true := by
  have c1 := dateErr_c c.date
  have c2 := noteErr_c c.note hn
  have c3 := moneyErr_c [c.paid, c.lo, c.hi, c.slack] (show 4 < 100000 by decide)
  change RealCall _ _ [.sl 4 [.int .i64 c.paid, .int .i64 c.lo, .int .i64 c.hi, .int .i64 c.slack]] _ _ at c3
  have c4 := first4_c (dateE c.date) (noteE c.note) (moneyE [c.paid, c.lo, c.hi, c.slack]) (errUnless (decide (c.lo ≤ c.hi)) 9)
  change RealCall _ _ _ (.int .i64 (decH c)) true at c4
  unfold decS
  by_cases h : decH c = 0
  · obtain ⟨⟨p1, p2⟩, q1, q2⟩ := decH_zero h
    rw [if_pos h]
    rw [h] at c4
    clear h
    obtain ⟨cd, cn, cp, cl, ch, cs⟩ := c
    unfold cCompl
    dsimp only at *
    by_cases h1 : cp - ch ≤ 0
    · rw [if_pos h1]
      refine realcall_intro Tryz.func34 (by kernel_rfl) rfl (Nat.le_of_ble_eq_true (by kernel_rfl)) ?_
      simp only [Tryz.results34, Tryz.ntmps34]
      repeat' (first | (with_reducible first | refine awp_seq ?_ | refine awp_blockS ?_ | refine awp_blockC ?_ | refine awp_blockR ?_ | refine awp_skip ?_ | refine awp_ret ?_ | refine awp_exit ?_ | refine awp_region ?_ | refine awp_regionD (id := 1) 29 mixed (by decide +kernel) ?_ | refine awp_condM ?_ | refine And.intro ?_ ?_ | apply gQ_merge | apply gE_merge | exact EqV_w | exact EqE_w | exact EqV_ptr | exact EqE_ptr | exact EqV_msl | exact EqE_msl | exact EqV_agg | exact EqE_agg | exact EqV_fn | exact EqE_fn | exact EqV_gd | exact EqE_gd | refine gM_splitN ?_ ?_ | refine gM_split ?_ ?_ |  refine condM_splitDN ?_ ?_ | refine condM_splitD ?_ ?_ | refine condM_splitN ?_ ?_ | refine condM_split ?_ ?_ | refine condM_any ?_ ?_ | refine cw (c1) ?_ | refine cw (c2) ?_ | refine cw (c3) ?_ | refine cw (c4) ?_ | refine cw (unless_c _ _) ?_ | intro _) | (simp [*, h1]) | (refine cw_eq (c1) ?_ ?_; (· (simp [*]; done))) | (refine cw_eq (c2) ?_ ?_; (· (simp [*]; done))) | (refine cw_eq (c3) ?_ ?_; (· (simp [*]; done))) | (refine cw_eq (c4) ?_ ?_; (· (simp [*]; done))) | (refine cw_eq (unless_c _ _) ?_ ?_; (· (simp [*]; done))))
      all_goals exact inI64 (by omega) (by omega)
    · rw [if_neg h1]
      by_cases h2 : cp - ch ≤ cs
      · rw [if_pos h2]
        refine realcall_intro Tryz.func34 (by kernel_rfl) rfl (Nat.le_of_ble_eq_true (by kernel_rfl)) ?_
        simp only [Tryz.results34, Tryz.ntmps34]
        repeat' (first | (with_reducible first | refine awp_seq ?_ | refine awp_blockS ?_ | refine awp_blockC ?_ | refine awp_blockR ?_ | refine awp_skip ?_ | refine awp_ret ?_ | refine awp_exit ?_ | refine awp_region ?_ | refine awp_regionD (id := 1) 29 mixed (by decide +kernel) ?_ | refine awp_condM ?_ | refine And.intro ?_ ?_ | apply gQ_merge | apply gE_merge | exact EqV_w | exact EqE_w | exact EqV_ptr | exact EqE_ptr | exact EqV_msl | exact EqE_msl | exact EqV_agg | exact EqE_agg | exact EqV_fn | exact EqE_fn | exact EqV_gd | exact EqE_gd | refine gM_splitN ?_ ?_ | refine gM_split ?_ ?_ |  refine condM_splitDN ?_ ?_ | refine condM_splitD ?_ ?_ | refine condM_splitN ?_ ?_ | refine condM_split ?_ ?_ | refine condM_any ?_ ?_ | refine cw (c1) ?_ | refine cw (c2) ?_ | refine cw (c3) ?_ | refine cw (c4) ?_ | refine cw (unless_c _ _) ?_ | intro _) | (simp [*, h1, h2]) | (refine cw_eq (c1) ?_ ?_; (· (simp [*]; done))) | (refine cw_eq (c2) ?_ ?_; (· (simp [*]; done))) | (refine cw_eq (c3) ?_ ?_; (· (simp [*]; done))) | (refine cw_eq (c4) ?_ ?_; (· (simp [*]; done))) | (refine cw_eq (unless_c _ _) ?_ ?_; (· (simp [*]; done))))
        all_goals exact inI64 (by omega) (by omega)
      · rw [if_neg h2]
        refine realcall_intro Tryz.func34 (by kernel_rfl) rfl (Nat.le_of_ble_eq_true (by kernel_rfl)) ?_
        simp only [Tryz.results34, Tryz.ntmps34]
        repeat' (first | (with_reducible first | refine awp_seq ?_ | refine awp_blockS ?_ | refine awp_blockC ?_ | refine awp_blockR ?_ | refine awp_skip ?_ | refine awp_ret ?_ | refine awp_exit ?_ | refine awp_region ?_ | refine awp_regionD (id := 1) 29 mixed (by decide +kernel) ?_ | refine awp_condM ?_ | refine And.intro ?_ ?_ | apply gQ_merge | apply gE_merge | exact EqV_w | exact EqE_w | exact EqV_ptr | exact EqE_ptr | exact EqV_msl | exact EqE_msl | exact EqV_agg | exact EqE_agg | exact EqV_fn | exact EqE_fn | exact EqV_gd | exact EqE_gd | refine gM_splitN ?_ ?_ | refine gM_split ?_ ?_ |  refine condM_splitDN ?_ ?_ | refine condM_splitD ?_ ?_ | refine condM_splitN ?_ ?_ | refine condM_split ?_ ?_ | refine condM_any ?_ ?_ | refine cw (c1) ?_ | refine cw (c2) ?_ | refine cw (c3) ?_ | refine cw (c4) ?_ | refine cw (unless_c _ _) ?_ | intro _) | (simp [*, h1, h2]) | (refine cw_eq (c1) ?_ ?_; (· (simp [*]; done))) | (refine cw_eq (c2) ?_ ?_; (· (simp [*]; done))) | (refine cw_eq (c3) ?_ ?_; (· (simp [*]; done))) | (refine cw_eq (c4) ?_ ?_; (· (simp [*]; done))) | (refine cw_eq (unless_c _ _) ?_ ?_; (· (simp [*]; done))))
        all_goals exact inI64 (by omega) (by omega)
  · rw [if_neg h]
    obtain ⟨cd, cn, cp, cl, ch, cs⟩ := c
    unfold cCompl
    dsimp only at *
    generalize decH ⟨cd, cn, cp, cl, ch, cs⟩ = H at *
    refine realcall_intro Tryz.func34 (by kernel_rfl) rfl (Nat.le_of_ble_eq_true (by kernel_rfl)) ?_
    simp only [Tryz.results34, Tryz.ntmps34]
    repeat' (first | (with_reducible first | refine awp_seq ?_ | refine awp_blockS ?_ | refine awp_blockC ?_ | refine awp_blockR ?_ | refine awp_skip ?_ | refine awp_ret ?_ | refine awp_exit ?_ | refine awp_region ?_ | refine awp_regionD (id := 1) 29 mixed (by decide +kernel) ?_ | refine awp_condM ?_ | refine And.intro ?_ ?_ | apply gQ_merge | apply gE_merge | exact EqV_w | exact EqE_w | exact EqV_ptr | exact EqE_ptr | exact EqV_msl | exact EqE_msl | exact EqV_agg | exact EqE_agg | exact EqV_fn | exact EqE_fn | exact EqV_gd | exact EqE_gd | refine gM_splitN ?_ ?_ | refine gM_split ?_ ?_ |  refine condM_splitDN ?_ ?_ | refine condM_splitD ?_ ?_ | refine condM_splitN ?_ ?_ | refine condM_split ?_ ?_ | refine condM_any ?_ ?_ | refine cw (c1) ?_ | refine cw (c2) ?_ | refine cw (c3) ?_ | refine cw (c4) ?_ | refine cw (unless_c _ _) ?_ | intro _) | (simp [*, h]) | (refine cw_eq (c1) ?_ ?_; (· (simp [*]; done))) | (refine cw_eq (c2) ?_ ?_; (· (simp [*]; done))) | (refine cw_eq (c3) ?_ ?_; (· (simp [*]; done))) | (refine cw_eq (c4) ?_ ?_; (· (simp [*]; done))) | (refine cw_eq (unless_c _ _) ?_ ?_; (· (simp [*]; done))))
theorem ints_eq (l : List Int) (hl : l.length < 100000) : RealCall Tryz.prog 10 [.sl l.length (ints l), .sl l.length (ints l)] (.bool true) true := by
  refine realcall_intro Tryz.func10 (by kernel_rfl) rfl (Nat.le_of_ble_eq_true (by kernel_rfl)) ?_
  simp only [Tryz.results10, Tryz.ntmps10]
  repeat' (first | (with_reducible first | refine awp_seq ?_ | refine awp_blockS ?_ | refine awp_blockC ?_ | refine awp_blockR ?_ | refine awp_skip ?_ | refine awp_ret ?_ | refine awp_exit ?_ | refine awp_region ?_ | refine awp_regionD (id := 6) 9 mixed (by decide +kernel) ?_ | refine awp_condM ?_ | refine And.intro ?_ ?_ | apply gQ_merge | apply gE_merge | exact EqV_w | exact EqE_w | exact EqV_ptr | exact EqE_ptr | exact EqV_msl | exact EqE_msl | exact EqV_agg | exact EqE_agg | exact EqV_fn | exact EqE_fn | exact EqV_gd | exact EqE_gd | refine gM_splitN ?_ ?_ | refine gM_split ?_ ?_ |  refine condM_splitDN ?_ ?_ | refine condM_splitD ?_ ?_ | refine condM_splitN ?_ ?_ | refine condM_split ?_ ?_ | refine condM_any ?_ ?_ | intro _) | (simp [*]))
  refine awp_for3 (fun (k : Nat) => k ≤ l.length) [0, 1] (fun (k : Nat) => [(5, .w false false (.int .i64 k))]) [] (fun (k : Nat) => []) (fun (k : Nat) => l.length - k) (fun (_u : Unit) => True) [] (fun (_u : Unit) => []) [] (fun (_u : Unit) => []) (0) (Nat.zero_le _) (by simp) (by simp) (fun k hk => ?_) (fun _u hf => ?_)
  · by_cases hlt : k < l.length
    · repeat' (first | (with_reducible first | refine awp_seq ?_ | refine awp_blockS ?_ | refine awp_blockC ?_ | refine awp_blockR ?_ | refine awp_skip ?_ | refine awp_ret ?_ | refine awp_exit ?_ | refine awp_region ?_ | refine awp_regionD (id := 6) 9 mixed (by decide +kernel) ?_ | refine awp_condM ?_ | refine And.intro ?_ ?_ | apply gQ_merge | apply gE_merge | exact EqV_w | exact EqE_w | exact EqV_ptr | exact EqE_ptr | exact EqV_msl | exact EqE_msl | exact EqV_agg | exact EqE_agg | exact EqV_fn | exact EqE_fn | exact EqV_gd | exact EqE_gd | refine gM_splitN ?_ ?_ | refine gM_split ?_ ?_ |  refine condM_splitDN ?_ ?_ | refine condM_splitD ?_ ?_ | refine condM_splitN ?_ ?_ | refine condM_split ?_ ?_ | refine condM_any ?_ ?_ | intro _) | (simp [*, hlt]))
      all_goals first
        | exact inI64 (by omega) (by omega)
        | omega
        | (refine loopK_normal _ _ _ _ _ (k + 1) _ ?_ (by first | omega | (dsimp only; omega) | (simp; omega)) ?_; (· omega); (refine le_of ?_ ?_ <;> first | trivial | (simp [*]; done)))
        | skip
    · have hke : k = l.length := by omega
      subst hke
      repeat' (first | (with_reducible first | refine awp_seq ?_ | refine awp_blockS ?_ | refine awp_blockC ?_ | refine awp_blockR ?_ | refine awp_skip ?_ | refine awp_ret ?_ | refine awp_exit ?_ | refine awp_region ?_ | refine awp_regionD (id := 6) 9 mixed (by decide +kernel) ?_ | refine awp_condM ?_ | refine And.intro ?_ ?_ | apply gQ_merge | apply gE_merge | exact EqV_w | exact EqE_w | exact EqV_ptr | exact EqE_ptr | exact EqV_msl | exact EqE_msl | exact EqV_agg | exact EqE_agg | exact EqV_fn | exact EqE_fn | exact EqV_gd | exact EqE_gd | refine gM_splitN ?_ ?_ | refine gM_split ?_ ?_ |  refine condM_splitDN ?_ ?_ | refine condM_splitD ?_ ?_ | refine condM_splitN ?_ ?_ | refine condM_split ?_ ?_ | refine condM_any ?_ ?_ | intro _) | (simp [*]))
      all_goals (refine finW_intro () ?_ ?_; (· trivial); (refine le_of ?_ ?_ <;> first | trivial | (simp [*]; done)))
  · clear hf
    repeat' (first | (with_reducible first | refine awp_seq ?_ | refine awp_blockS ?_ | refine awp_blockC ?_ | refine awp_blockR ?_ | refine awp_skip ?_ | refine awp_ret ?_ | refine awp_exit ?_ | refine awp_region ?_ | refine awp_regionD (id := 6) 9 mixed (by decide +kernel) ?_ | refine awp_condM ?_ | refine And.intro ?_ ?_ | apply gQ_merge | apply gE_merge | exact EqV_w | exact EqE_w | exact EqV_ptr | exact EqE_ptr | exact EqV_msl | exact EqE_msl | exact EqV_agg | exact EqE_agg | exact EqV_fn | exact EqE_fn | exact EqV_gd | exact EqE_gd | refine gM_splitN ?_ ?_ | refine gM_split ?_ ?_ |  refine condM_splitDN ?_ ?_ | refine condM_splitD ?_ ?_ | refine condM_splitN ?_ ?_ | refine condM_split ?_ ?_ | refine condM_any ?_ ?_ | intro _) | (simp [*]))
theorem sameEntry_c (e : Entry) (hl : e.lines.length < 100000) : RealCall Tryz.prog 22 [.agg (cEntry e), .agg (cEntry e)] (.bool true) true := by
  obtain ⟨ed, en, el⟩ := e
  unfold cEntry
  dsimp only at *
  refine realcall_intro Tryz.func22 (by kernel_rfl) rfl (Nat.le_of_ble_eq_true (by kernel_rfl)) ?_
  simp only [Tryz.results22, Tryz.ntmps22]
  repeat' (first | (with_reducible first | refine awp_seq ?_ | refine awp_blockS ?_ | refine awp_blockC ?_ | refine awp_blockR ?_ | refine awp_skip ?_ | refine awp_ret ?_ | refine awp_exit ?_ | refine awp_region ?_ | refine awp_regionD (id := 6) 11 mixed (by decide +kernel) ?_ | refine awp_condM ?_ | refine And.intro ?_ ?_ | apply gQ_merge | apply gE_merge | exact EqV_w | exact EqE_w | exact EqV_ptr | exact EqE_ptr | exact EqV_msl | exact EqE_msl | exact EqV_agg | exact EqE_agg | exact EqV_fn | exact EqE_fn | exact EqV_gd | exact EqE_gd | refine gM_splitN ?_ ?_ | refine gM_split ?_ ?_ |  refine condM_splitDN ?_ ?_ | refine condM_splitD ?_ ?_ | refine condM_splitN ?_ ?_ | refine condM_split ?_ ?_ | refine condM_any ?_ ?_ | intro _) | (simp [*]))
  refine awp_for3 (fun (k : Nat) => k ≤ el.length) [2, 3] (fun (k : Nat) => [(5, .w false false (.int .i64 k))]) [0, 1] (fun (k : Nat) => []) (fun (k : Nat) => el.length - k) (fun (_u : Unit) => True) [] (fun (_u : Unit) => []) [] (fun (_u : Unit) => []) (0) (Nat.zero_le _) (by simp) (by simp) (fun k hk => ?_) (fun _u hf => ?_)
  · by_cases hlt : k < el.length
    · repeat' (first | (with_reducible first | refine awp_seq ?_ | refine awp_blockS ?_ | refine awp_blockC ?_ | refine awp_blockR ?_ | refine awp_skip ?_ | refine awp_ret ?_ | refine awp_exit ?_ | refine awp_region ?_ | refine awp_regionD (id := 6) 11 mixed (by decide +kernel) ?_ | refine awp_condM ?_ | refine And.intro ?_ ?_ | apply gQ_merge | apply gE_merge | exact EqV_w | exact EqE_w | exact EqV_ptr | exact EqE_ptr | exact EqV_msl | exact EqE_msl | exact EqV_agg | exact EqE_agg | exact EqV_fn | exact EqE_fn | exact EqV_gd | exact EqE_gd | refine gM_splitN ?_ ?_ | refine gM_split ?_ ?_ |  refine condM_splitDN ?_ ?_ | refine condM_splitD ?_ ?_ | refine condM_splitN ?_ ?_ | refine condM_split ?_ ?_ | refine condM_any ?_ ?_ | intro _) | (simp [*, hlt, cLine]))
      all_goals first
        | exact inI64 (by omega) (by omega)
        | omega
        | (refine loopK_normal _ _ _ _ _ (k + 1) _ ?_ (by first | omega | (dsimp only; omega) | (simp; omega)) ?_; (· omega); (refine le_of ?_ ?_ <;> first | trivial | (simp [*]; done)))
        | skip
    · have hke : k = el.length := by omega
      subst hke
      repeat' (first | (with_reducible first | refine awp_seq ?_ | refine awp_blockS ?_ | refine awp_blockC ?_ | refine awp_blockR ?_ | refine awp_skip ?_ | refine awp_ret ?_ | refine awp_exit ?_ | refine awp_region ?_ | refine awp_regionD (id := 6) 11 mixed (by decide +kernel) ?_ | refine awp_condM ?_ | refine And.intro ?_ ?_ | apply gQ_merge | apply gE_merge | exact EqV_w | exact EqE_w | exact EqV_ptr | exact EqE_ptr | exact EqV_msl | exact EqE_msl | exact EqV_agg | exact EqE_agg | exact EqV_fn | exact EqE_fn | exact EqV_gd | exact EqE_gd | refine gM_splitN ?_ ?_ | refine gM_split ?_ ?_ |  refine condM_splitDN ?_ ?_ | refine condM_splitD ?_ ?_ | refine condM_splitN ?_ ?_ | refine condM_split ?_ ?_ | refine condM_any ?_ ?_ | intro _) | (simp [*]))
      all_goals (refine finW_intro () ?_ ?_; (· trivial); (refine le_of ?_ ?_ <;> first | trivial | (simp [*]; done)))
  · clear hf
    repeat' (first | (with_reducible first | refine awp_seq ?_ | refine awp_blockS ?_ | refine awp_blockC ?_ | refine awp_blockR ?_ | refine awp_skip ?_ | refine awp_ret ?_ | refine awp_exit ?_ | refine awp_region ?_ | refine awp_regionD (id := 6) 11 mixed (by decide +kernel) ?_ | refine awp_condM ?_ | refine And.intro ?_ ?_ | apply gQ_merge | apply gE_merge | exact EqV_w | exact EqE_w | exact EqV_ptr | exact EqE_ptr | exact EqV_msl | exact EqE_msl | exact EqV_agg | exact EqE_agg | exact EqV_fn | exact EqE_fn | exact EqV_gd | exact EqE_gd | refine gM_splitN ?_ ?_ | refine gM_split ?_ ?_ |  refine condM_splitDN ?_ ?_ | refine condM_splitD ?_ ?_ | refine condM_splitN ?_ ?_ | refine condM_split ?_ ?_ | refine condM_any ?_ ?_ | intro _) | (simp [*]))
def bs (l : List UInt8) : ByteArray := ⟨l.toArray⟩
def exAccs : List Acc := [⟨bs [99, 97, 115, 104], 0⟩, ⟨bs [118, 111, 117, 99, 104, 101, 114, 115], 0⟩, ⟨bs [97, 110, 110], 1⟩, ⟨bs [111, 119, 110, 101, 114], 1⟩, ⟨bs [111, 102, 102, 105, 99, 101], 2⟩]
def exRule : Rule := ⟨bs [111, 119, 110, 101, 114], bs [97, 110, 110], bs [111, 102, 102, 105, 99, 101], 50, 40, 10, bs [99, 97, 115, 104], bs [118, 111, 117, 99, 104, 101, 114, 115]⟩
def exTrip : Trip := ⟨12, bs [116, 114, 105, 112, 49], 1001, 99, 500⟩
theorem names_c : RealCall Tryz.prog 31 [] (.sl 5 (cAccs exAccs)) true := by
  refine realcall_intro Tryz.func31 (by kernel_rfl) rfl (Nat.le_of_ble_eq_true (by kernel_rfl)) ?_
  simp only [Tryz.results31, Tryz.ntmps31]
  repeat' (first | (with_reducible first | refine awp_seq ?_ | refine awp_blockS ?_ | refine awp_blockC ?_ | refine awp_blockR ?_ | refine awp_skip ?_ | refine awp_ret ?_ | refine awp_exit ?_ | refine awp_region ?_ | refine awp_condM ?_ | refine And.intro ?_ ?_ | apply gQ_merge | apply gE_merge | exact EqV_w | exact EqE_w | exact EqV_ptr | exact EqE_ptr | exact EqV_msl | exact EqE_msl | exact EqV_agg | exact EqE_agg | exact EqV_fn | exact EqE_fn | exact EqV_gd | exact EqE_gd | refine gM_splitN ?_ ?_ | refine gM_split ?_ ?_ |  refine condM_splitDN ?_ ?_ | refine condM_splitD ?_ ?_ | refine condM_splitN ?_ ?_ | refine condM_split ?_ ?_ | refine condM_any ?_ ?_ | intro _) | (simp [*, repl]))
  all_goals rfl
theorem rule_c : RealCall Tryz.prog 32 [] (.agg (cRule exRule)) true := by
  refine realcall_intro Tryz.func32 (by kernel_rfl) rfl (Nat.le_of_ble_eq_true (by kernel_rfl)) ?_
  simp only [Tryz.results32, Tryz.ntmps32]
  repeat' (first | (with_reducible first | refine awp_seq ?_ | refine awp_blockS ?_ | refine awp_blockC ?_ | refine awp_blockR ?_ | refine awp_skip ?_ | refine awp_ret ?_ | refine awp_exit ?_ | refine awp_region ?_ | refine awp_condM ?_ | refine And.intro ?_ ?_ | apply gQ_merge | apply gE_merge | exact EqV_w | exact EqE_w | exact EqV_ptr | exact EqE_ptr | exact EqV_msl | exact EqE_msl | exact EqV_agg | exact EqE_agg | exact EqV_fn | exact EqE_fn | exact EqV_gd | exact EqE_gd | refine gM_splitN ?_ ?_ | refine gM_split ?_ ?_ |  refine condM_splitDN ?_ ?_ | refine condM_splitD ?_ ?_ | refine condM_splitN ?_ ?_ | refine condM_split ?_ ?_ | refine condM_any ?_ ?_ | intro _) | (simp [*, repl]))
  all_goals rfl
theorem trip_c : RealCall Tryz.prog 33 [] (.agg (cTrip exTrip)) true := by
  refine realcall_intro Tryz.func33 (by kernel_rfl) rfl (Nat.le_of_ble_eq_true (by kernel_rfl)) ?_
  simp only [Tryz.results33, Tryz.ntmps33]
  repeat' (first | (with_reducible first | refine awp_seq ?_ | refine awp_blockS ?_ | refine awp_blockC ?_ | refine awp_blockR ?_ | refine awp_skip ?_ | refine awp_ret ?_ | refine awp_exit ?_ | refine awp_region ?_ | refine awp_condM ?_ | refine And.intro ?_ ?_ | apply gQ_merge | apply gE_merge | exact EqV_w | exact EqE_w | exact EqV_ptr | exact EqE_ptr | exact EqV_msl | exact EqE_msl | exact EqV_agg | exact EqE_agg | exact EqV_fn | exact EqE_fn | exact EqV_gd | exact EqE_gd | refine gM_splitN ?_ ?_ | refine gM_split ?_ ?_ |  refine condM_splitDN ?_ ?_ | refine condM_splitD ?_ ?_ | refine condM_splitN ?_ ?_ | refine condM_split ?_ ?_ | refine condM_any ?_ ?_ | intro _) | (simp [*, repl]))
  all_goals rfl
end Go.Proofs.YtpjhpmpbdfeajaaGreatDoor
namespace Go.Proofs.YtpjhpmpbdfeajaaGreatDoor
open Go Go.Fi
set_option maxRecDepth 20000

/-! ### what a book that is right is like -/
theorem linesF_zero {a : List Acc} : ∀ (l : List Line) (i : Nat) (s : Int), (linesF a l i s).2 = 0 → ∀ k, k < l.length → lineE a (nth l k) = 0
  | [], _, _, _, k, hk => by cases hk
  | y :: r, i, s, h, k, hk => by
    unfold linesF at h
    by_cases hy : lineE a y = 0
    · rw [if_pos hy] at h
      cases k with
      | zero => exact hy
      | succ k => exact linesF_zero r _ _ h k (by simpa using hk)
    · rw [if_neg hy] at h; exact absurd h hy
theorem entryS_zero {a : List Acc} {e : Entry} (h : (entryS a e).2 = 0) : headE e = 0 ∧ ∀ k, k < e.lines.length → lineE a (nth e.lines k) = 0 := by
  unfold entryS at h
  by_cases hh : headE e = 0
  · rw [if_pos hh] at h; exact ⟨hh, linesF_zero _ _ _ h⟩
  · rw [if_neg hh] at h; exact absurd h hh
theorem entE_zero {a : List Acc} {s : Int} {e : Entry} (h : entE a s e = 0) : (entryS a e).2 = 0 ∧ s ≤ e.date :=
  ⟨firstS_zero h _ (by simp), of_decide_eq_true (unless_zero (firstS_zero h (errUnless (decide (s ≤ e.date)) 9) (by simp)) (by decide))⟩
theorem bookF_zero {a : List Acc} {c : Int} : ∀ (l : List Entry) (i : Nat) (s : Int), (bookF a c l i s).2 = 0 → ∀ k, k < l.length → (entryS a (nth l k)).2 = 0
  | [], _, _, _, k, hk => by cases hk
  | y :: r, i, s, h, k, hk => by
    unfold bookF at h
    by_cases hy : entE a s y = 0
    · rw [if_pos hy] at h
      cases k with
      | zero => exact (entE_zero hy).1
      | succ k => exact bookF_zero r _ _ h k (by simpa using hk)
    · rw [if_neg hy] at h; exact absurd h hy
structure BookRight (b : Book) : Prop where
  accs : (accsS b.accs).2 = 0
  len : b.entries.length ≤ 100
  ent : ∀ k, k < b.entries.length → (entryS b.accs (nth b.entries k)).2 = 0
theorem bookS_zero {b : Book} (h : (bookS b).2 = 0) : BookRight b := by
  unfold bookS at h
  by_cases hh : bookH b = 0
  · rw [if_pos hh] at h
    obtain ⟨h1, h2⟩ := bookH_zero hh
    exact ⟨h1, h2, bookF_zero _ _ _ h⟩
  · rw [if_neg hh] at h; exact absurd h hh
structure EntsTight (l : List Entry) : Prop where
  len : l.length ≤ 100
  lines : ∀ k, k < l.length → (nth l k).lines.length ≤ 12
  amt : ∀ k, k < l.length → ∀ j, j < (nth l k).lines.length → -1000000000 ≤ (nth (nth l k).lines j).amt ∧ (nth (nth l k).lines j).amt ≤ 1000000000
theorem BookRight.tight {b : Book} (h : BookRight b) : EntsTight b.entries :=
  ⟨h.len, fun k hk => (headE_zero (entryS_zero (h.ent k hk)).1).2.2.2.2, fun k hk j hj => (lineE_zero ((entryS_zero (h.ent k hk)).2 j hj)).2.2⟩
theorem EntsTight.ents {l : List Entry} (h : EntsTight l) : EntsIn l :=
  ⟨by have := h.len; omega, fun k hk => ⟨by have := h.lines k hk; omega, h.amt k hk⟩⟩
theorem EntsTight.bal {l : List Entry} (h : EntsTight l) (n : ByteArray) (d : Int) : ∀ k, k ≤ l.length → -(12000000000 * (k : Int)) ≤ balS n d (l.take k) ∧ balS n d (l.take k) ≤ 12000000000 * (k : Int)
  | 0, _ => by simp
  | k + 1, hk => by
    have ih := h.bal n d k (by omega)
    rw [balS_succ n d l k (by omega)]
    have hp := putS_abs n (nth l k).lines (h.amt k (by omega))
    have hl := h.lines k (by omega)
    split <;> omega
theorem EntsTight.small {l : List Entry} (h : EntsTight l) (n : ByteArray) (d : Int) : -1200000000000 ≤ balS n d l ∧ balS n d l ≤ 1200000000000 := by
  have hb := h.bal n d l.length (Nat.le_refl _)
  rw [List.take_length] at hb
  have := h.len
  omega
def resB (a : Acc) : Bool := decide (a.kind = 2) || decide (a.kind = 3)
theorem open_c (b : Book) (hb : BookIn b) : RealCall Tryz.prog 69 [.agg (cBook b)] (.tup [.agg (cBook b), .int .i64 (bookS b).2]) false := by
  have c1 := checkBook_c b hb
  unfold pairI at c1
  generalize bookS b = q at *
  unfold cBook at *
  refine realcall_intro Tryz.func69 (by kernel_rfl) rfl (Nat.le_of_ble_eq_true (by kernel_rfl)) ?_
  simp only [Tryz.results69, Tryz.ntmps69]
  repeat' (first | (with_reducible first | refine awp_seq ?_ | refine awp_blockS ?_ | refine awp_blockC ?_ | refine awp_blockR ?_ | refine awp_skip ?_ | refine awp_ret ?_ | refine awp_exit ?_ | refine awp_region ?_ | refine awp_condM ?_ | refine And.intro ?_ ?_ | apply gQ_merge | apply gE_merge | exact EqV_w | exact EqE_w | exact EqV_ptr | exact EqE_ptr | exact EqV_msl | exact EqE_msl | exact EqV_agg | exact EqE_agg | exact EqV_fn | exact EqE_fn | exact EqV_gd | exact EqE_gd | refine gM_splitN ?_ ?_ | refine gM_split ?_ ?_ |  refine condM_splitDN ?_ ?_ | refine condM_splitD ?_ ?_ | refine condM_splitN ?_ ?_ | refine condM_split ?_ ?_ | refine condM_any ?_ ?_ | refine cw (c1) ?_ | intro _) | (simp [*]) | (refine cw_eq (c1) ?_ ?_; (· (simp [*]; done))))
theorem accountErr_c (b : Book) (hl : b.accs.length < 100000) (n : ByteArray) : RealCall Tryz.prog 71 [.agg (cBook b), .str n] (.int .i64 (errUnless (hasS b.accs n) 6)) true := by
  have c1 := has_c b.accs hl n
  unfold cBook
  refine realcall_intro Tryz.func71 (by kernel_rfl) rfl (Nat.le_of_ble_eq_true (by kernel_rfl)) ?_
  simp only [Tryz.results71, Tryz.ntmps71]
  repeat' (first | (with_reducible first | refine awp_seq ?_ | refine awp_blockS ?_ | refine awp_blockC ?_ | refine awp_blockR ?_ | refine awp_skip ?_ | refine awp_ret ?_ | refine awp_exit ?_ | refine awp_region ?_ | refine awp_condM ?_ | refine And.intro ?_ ?_ | apply gQ_merge | apply gE_merge | exact EqV_w | exact EqE_w | exact EqV_ptr | exact EqE_ptr | exact EqV_msl | exact EqE_msl | exact EqV_agg | exact EqE_agg | exact EqV_fn | exact EqE_fn | exact EqV_gd | exact EqE_gd | refine gM_splitN ?_ ?_ | refine gM_split ?_ ?_ |  refine condM_splitDN ?_ ?_ | refine condM_splitD ?_ ?_ | refine condM_splitN ?_ ?_ | refine condM_split ?_ ?_ | refine condM_any ?_ ?_ | refine cw (c1) ?_ | refine cw (unless_c _ _) ?_ | intro _) | (simp [*]) | (refine cw_eq (c1) ?_ ?_; (· (simp [*]; done))) | (refine cw_eq (unless_c _ _) ?_ ?_; (· (simp [*]; done))))
def clK (f : ByteArray → Int) (l : List Acc) : Nat → List Line
  | 0 => []
  | k + 1 => if (resB (nth l k) && !decide (f (nth l k).name = 0)) = true then clK f l k ++ [⟨(nth l k).name, -(f (nth l k).name)⟩] else clK f l k
def nK (f : ByteArray → Int) (l : List Acc) : Nat → Int
  | 0 => 0
  | k + 1 => if (resB (nth l k) && !decide (f (nth l k).name = 0)) = true then nK f l k + f (nth l k).name else nK f l k
theorem clK_len (f : ByteArray → Int) (l : List Acc) : ∀ k, (clK f l k).length ≤ k
  | 0 => Nat.le_refl 0
  | k + 1 => by
    have ih := clK_len f l k
    unfold clK
    split
    · simp; omega
    · omega
theorem nK_abs (f : ByteArray → Int) (hf : ∀ n, -1200000000000 ≤ f n ∧ f n ≤ 1200000000000) (l : List Acc) : ∀ k : Nat, -(1200000000000 * (k : Int)) ≤ nK f l k ∧ nK f l k ≤ 1200000000000 * (k : Int)
  | 0 => by simp [nK]
  | k + 1 => by
    have ih := nK_abs f hf l k
    have h1 := hf (nth l k).name
    unfold nK
    split <;> omega
@[simp] theorem clK_zero (f : ByteArray → Int) (l : List Acc) : clK f l 0 = [] := rfl
@[simp] theorem nK_zero (f : ByteArray → Int) (l : List Acc) : nK f l 0 = 0 := rfl
theorem clK_yes (f : ByteArray → Int) (l : List Acc) (k : Nat) (h1 : resB (nth l k) = true) (h2 : ¬ f (nth l k).name = 0) : clK f l (k + 1) = clK f l k ++ [⟨(nth l k).name, -(f (nth l k).name)⟩] :=
  if_pos (by rw [h1]; simp [h2])
theorem clK_no (f : ByteArray → Int) (l : List Acc) (k : Nat) (h : resB (nth l k) = false ∨ f (nth l k).name = 0) : clK f l (k + 1) = clK f l k :=
  if_neg (by rcases h with h | h <;> simp [h])
theorem nK_yes (f : ByteArray → Int) (l : List Acc) (k : Nat) (h1 : resB (nth l k) = true) (h2 : ¬ f (nth l k).name = 0) : nK f l (k + 1) = nK f l k + f (nth l k).name :=
  if_pos (by rw [h1]; simp [h2])
theorem nK_no (f : ByteArray → Int) (l : List Acc) (k : Nat) (h : resB (nth l k) = false ∨ f (nth l k).name = 0) : nK f l (k + 1) = nK f l k :=
  if_neg (by rcases h with h | h <;> simp [h])
end Go.Proofs.YtpjhpmpbdfeajaaGreatDoor
namespace Go.Proofs.YtpjhpmpbdfeajaaGreatDoor
open Go Go.Fi
set_option maxRecDepth 20000
attribute [-simp] cEntries_drop2

/-! ### the closing entry -/
def clE (b : Book) (m : Int) (n : ByteArray) : Int := firstS [(bookS b).2, errUnless (winB m 0 3332) 2, errUnless (hasS b.accs n) 6]
def clD (m : Int) : Int := 30 * m + 30 - 1
def clF (b : Book) (m : Int) (x : ByteArray) : Int := balS x (clD m) b.entries
def clAll (b : Book) (m : Int) (n : ByteArray) : List Line := if nK (clF b m) b.accs b.accs.length = 0 then clK (clF b m) b.accs b.accs.length else clK (clF b m) b.accs b.accs.length ++ [⟨n, nK (clF b m) b.accs b.accs.length⟩]
def closeS (b : Book) (m : Int) (n : ByteArray) : Entry × Int :=
  if clE b m n = 0 then
    (if resB (nth b.accs (findS b.accs n).toNat) = true then (noEntry, 15) else
      if (clAll b m n).length = 0 then (noEntry, 12) else largestS ⟨clD m, bs [99, 108, 111, 115, 105, 110, 103], clAll b m n⟩)
  else (noEntry, clE b m n)
def muchL (l : List Line) : Bool := l.any greatB || decide (12 < l.length)
def noA (e : Int) : PV := .tup [.agg [.int .i64 0, .str ⟨#[]⟩, .sl 0 []], .int .i64 e]
def yesA (d : Int) (s : ByteArray) (l : List Line) : PV := .tup [.agg [.int .i64 d, .str s, .sl l.length (cLines l)], .int .i64 0]
theorem closingOf_ok (b : Book) (hb : BookIn b) (m : Int) (n : ByteArray) (h : clE b m n = 0) (hr : resB (nth b.accs (findS b.accs n).toNat) = false) (hL : (clAll b m n).length < 100000)
    (R : PV) (hR0 : (clAll b m n).length = 0 → R = noA 12) (hR8 : ¬ (clAll b m n).length = 0 → muchL (clAll b m n) = true → R = noA 8)
    (hR1 : ¬ (clAll b m n).length = 0 → muchL (clAll b m n) = false → R = yesA (clD m) ⟨#[99, 108, 111, 115, 105, 110, 103]⟩ (clAll b m n)) :
    RealCall Tryz.prog 35 [.agg (cBook b), .int .i64 m, .str n] R true := by
  have hz := firstS_zero h
  have c1 := open_c b hb
  have hb0 := hz (bookS b).2 (by simp)
  have ht := (bookS_zero hb0).tight
  have hm := winB_iff.1 (unless_zero (hz (errUnless (winB m 0 3332) 2) (by simp)) (by decide))
  have hh := unless_zero (hz (errUnless (hasS b.accs n) 6) (by simp)) (by decide)
  have c3 := accountErr_c b (by have := hb.accs.len; omega) n
  have c4 := first3_c (bookS b).2 (errUnless (winB m 0 3332) 2) (errUnless (hasS b.accs n) 6)
  change RealCall _ _ _ (.int .i64 (clE b m n)) true at c4
  rw [h] at c4
  rw [hb0] at c1 c4
  have hlen := hb.accs.len
  have c5 := at_c b.accs (by omega) n
  have hfd : ∃ i : Nat, findS b.accs n = (i : Int) ∧ i < b.accs.length := by
    have h1 := of_decide_eq_true ((find_has b.accs n).trans hh)
    have h2 := (find_bd b.accs n).2
    exact ⟨(findS b.accs n).toNat, by omega, by omega⟩
  obtain ⟨i, hi, hil⟩ := hfd
  rw [hi] at c5 hr
  rw [Int.toNat_natCast] at hr
  have c6 := isResult_c (nth b.accs i)
  change RealCall _ _ _ (.bool (resB (nth b.accs i))) true at c6
  rw [hr] at c6
  have hfa : ∀ x, RealCall Tryz.prog 74 [.agg (cBook b), .str x, .int .i64 (clD m)] (.int .i64 (clF b m x)) true := fun x => balance_c b x (clD m) ht.ents
  have hfs : ∀ x, -1200000000000 ≤ clF b m x ∧ clF b m x ≤ 1200000000000 := fun x => ht.small x (clD m)
  clear ht hb h hz hb0 hr hi hh
  have k0 := keep hR0
  have k8 := keep hR8
  have k1 := keep hR1
  clear hR0 hR8 hR1
  have kfa := keep hfa
  have kfs := keep hfs
  have cB := containsFuncL_c (clAll b m n) hL 105 [] greatB la1_c
  have kcl := keep cB
  clear hfa hfs cB hL
  unfold clAll at *
  generalize clF b m = f at *
  generalize hD : clD m = D at *
  unfold clD at hD
  obtain ⟨ba, be, bc⟩ := b
  unfold cBook cAcc at *
  dsimp only at *
  obtain ⟨m0, m1⟩ := hm
  refine realcall_intro Tryz.func35 (by kernel_rfl) rfl (Nat.le_of_ble_eq_true (by kernel_rfl)) ?_
  simp only [Tryz.results35, Tryz.ntmps35]
  repeat' (first | (with_reducible first | refine awp_seq ?_ | refine awp_blockS ?_ | refine awp_blockC ?_ | refine awp_blockR ?_ | refine awp_skip ?_ | refine awp_ret ?_ | refine awp_exit ?_ | refine awp_region ?_ | refine awp_regionD (id := 2) 9 mixed (by decide +kernel) ?_ | refine awp_regionD (id := 5) 9 mixed (by decide +kernel) ?_ | refine awp_condM ?_ | refine And.intro ?_ ?_ | apply gQ_merge | apply gE_merge | exact EqV_w | exact EqE_w | exact EqV_ptr | exact EqE_ptr | exact EqV_msl | exact EqE_msl | exact EqV_agg | exact EqE_agg | exact EqV_fn | exact EqE_fn | exact EqV_gd | exact EqE_gd | refine gM_splitN ?_ ?_ | refine gM_split ?_ ?_ |  refine condM_splitDN ?_ ?_ | refine condM_splitD ?_ ?_ | refine condM_splitN ?_ ?_ | refine condM_split ?_ ?_ | refine condM_any ?_ ?_ | refine cw (c1) ?_ | refine cw (c3) ?_ | refine cw (c4) ?_ | refine cw (c5) ?_ | refine cw (c6) ?_ | refine cw (within_c _ _ _) ?_ | refine cw (unless_c _ _) ?_ | intro _) | (simp [*, hil, cAcc, hD]) | (refine cw_eq (c1) ?_ ?_; (· (simp [*]; done))) | (refine cw_eq (c3) ?_ ?_; (· (simp [*]; done))) | (refine cw_eq (c4) ?_ ?_; (· (simp [*]; done))) | (refine cw_eq (c5) ?_ ?_; (· (simp [*]; done))) | (refine cw_eq (c6) ?_ ?_; (· (simp [*]; done))) | (refine cw_eq (within_c _ _ _) ?_ ?_; (· (simp [*]; done))) | (refine cw_eq (unless_c _ _) ?_ ?_; (· (simp [*]; done))))
  all_goals try exact inI64 (by omega) (by omega)
  · omega
  refine awp_for4 6 (fun (k : Nat) => k ≤ ba.length) [2, 6, 8, 10, 49, 50] (fun (k : Nat) => [(51, .w false false (.int .i64 k)), (11, .w false false (.int .i64 (nK f ba k)))]) [1, 2] (fun (k : Nat) => [(4, [.w false false (.int .i64 D), .w false false (.str ⟨#[99, 108, 111, 115, 105, 110, 103]⟩), .msl 5 ((clK f ba k).length * 2) 2 0 (clK f ba k).length]), (5, lA (clK f ba k))]) (fun (k : Nat) => ba.length - k) (fun (_u : Unit) => True) [2, 6, 10] (fun (_u : Unit) => [(11, .w false false (.int .i64 (nK f ba ba.length)))]) [1, 2] (fun (_u : Unit) => [(4, [.w false false (.int .i64 D), .w false false (.str ⟨#[99, 108, 111, 115, 105, 110, 103]⟩), .msl 5 ((clK f ba ba.length).length * 2) 2 0 (clK f ba ba.length).length]), (5, lA (clK f ba ba.length))]) (0) (Nat.zero_le _) (le_gen [] (by simp) (by simp)) (fun k hk => ?_) (fun _u hf => ?_)
  · clear c1 c3 c4 c5 c6
    by_cases hlt : k < ba.length
    · have c1 := (show ∀ x, RealCall Tryz.prog 74 [.agg [.sl ba.length (cAccs ba), .sl be.length (cEntries be), .int .i64 bc], .str x, .int .i64 D] (.int .i64 (f x)) true from kfa) (nth ba k).name
      have c7 := isResult_c (nth ba k)
      change RealCall _ _ _ (.bool (resB (nth ba k))) true at c7
      unfold cAcc at c7
      have hf := (show ∀ x, -1200000000000 ≤ f x ∧ f x ≤ 1200000000000 from kfs) (nth ba k).name
      have hN := nK_abs f kfs ba k
      have hL := clK_len f ba k
      clear kfa kfs kcl k0 k8 k1
      cases hr : resB (nth ba k) with
      | false =>
        rw [hr] at c7
        have hs1 : clK f ba (k + 1) = clK f ba k := clK_no _ _ _ (.inl hr)
        have hs2 : nK f ba (k + 1) = nK f ba k := nK_no _ _ _ (.inl hr)
        have ks1 := keep hs1
        have ks2 := keep hs2
        clear hs1 hs2
        generalize clK f ba k = L at *
        generalize nK f ba k = N at *
        repeat' (first | (with_reducible first | refine awp_seq ?_ | refine awp_blockS ?_ | refine awp_blockC ?_ | refine awp_blockR ?_ | refine awp_skip ?_ | refine awp_ret ?_ | refine awp_exit ?_ | refine awp_region ?_ | refine awp_regionD (id := 2) 9 mixed (by decide +kernel) ?_ | refine awp_regionD (id := 5) 9 mixed (by decide +kernel) ?_ | refine awp_condM ?_ | refine And.intro ?_ ?_ | apply gQ_merge | apply gE_merge | exact EqV_w | exact EqE_w | exact EqV_ptr | exact EqE_ptr | exact EqV_msl | exact EqE_msl | exact EqV_agg | exact EqE_agg | exact EqV_fn | exact EqE_fn | exact EqV_gd | exact EqE_gd | refine gM_splitN ?_ ?_ | refine gM_split ?_ ?_ |  refine condM_splitDN ?_ ?_ | refine condM_splitD ?_ ?_ | refine condM_splitN ?_ ?_ | refine condM_split ?_ ?_ | refine condM_any ?_ ?_ | refine cw (c1) ?_ | refine cw (c7) ?_ | intro _) | (simp [*, hlt, cAcc]) | (refine cw_eq (c1) ?_ ?_; (· (simp [*]; done))) | (refine cw_eq (c7) ?_ ?_; (· (simp [*]; done))))
        all_goals first
          | exact inI64 (by omega) (by omega)
          | omega
          | (refine loopK_normal _ _ _ _ _ (k + 1) _ ?_ (by first | omega | (dsimp only; omega) | (simp; omega)) ?_; (· omega); (refine le_gen [] ?_ ?_ <;> first | trivial | (simp [*, (show clK f ba (k + 1) = _ from ks1), (show nK f ba (k + 1) = _ from ks2)]; done)))
          | skip
      | true =>
        rw [hr] at c7
        by_cases h0 : f (nth ba k).name = 0
        · have hs1 : clK f ba (k + 1) = clK f ba k := clK_no _ _ _ (.inr h0)
          have hs2 : nK f ba (k + 1) = nK f ba k := nK_no _ _ _ (.inr h0)
          have ks1 := keep hs1
          have ks2 := keep hs2
          clear hs1 hs2
          generalize clK f ba k = L at *
          generalize nK f ba k = N at *
          repeat' (first | (with_reducible first | refine awp_seq ?_ | refine awp_blockS ?_ | refine awp_blockC ?_ | refine awp_blockR ?_ | refine awp_skip ?_ | refine awp_ret ?_ | refine awp_exit ?_ | refine awp_region ?_ | refine awp_regionD (id := 2) 9 mixed (by decide +kernel) ?_ | refine awp_regionD (id := 5) 9 mixed (by decide +kernel) ?_ | refine awp_condM ?_ | refine And.intro ?_ ?_ | apply gQ_merge | apply gE_merge | exact EqV_w | exact EqE_w | exact EqV_ptr | exact EqE_ptr | exact EqV_msl | exact EqE_msl | exact EqV_agg | exact EqE_agg | exact EqV_fn | exact EqE_fn | exact EqV_gd | exact EqE_gd | refine gM_splitN ?_ ?_ | refine gM_split ?_ ?_ |  refine condM_splitDN ?_ ?_ | refine condM_splitD ?_ ?_ | refine condM_splitN ?_ ?_ | refine condM_split ?_ ?_ | refine condM_any ?_ ?_ | refine cw (c1) ?_ | refine cw (c7) ?_ | intro _) | (simp [*, hlt, cAcc, h0]) | (refine cw_eq (c1) ?_ ?_; (· (simp [*]; done))) | (refine cw_eq (c7) ?_ ?_; (· (simp [*]; done))))
          all_goals first
            | exact inI64 (by omega) (by omega)
            | omega
            | (refine loopK_normal _ _ _ _ _ (k + 1) _ ?_ (by first | omega | (dsimp only; omega) | (simp; omega)) ?_; (· omega); (refine le_gen [] ?_ ?_ <;> first | trivial | (simp [*, (show clK f ba (k + 1) = _ from ks1), (show nK f ba (k + 1) = _ from ks2)]; done)))
            | skip
        · have hs1 : clK f ba (k + 1) = clK f ba k ++ [⟨(nth ba k).name, -(f (nth ba k).name)⟩] := clK_yes _ _ _ hr h0
          have hs2 : nK f ba (k + 1) = nK f ba k + f (nth ba k).name := nK_yes _ _ _ hr h0
          have ks1 := keep hs1
          have ks2 := keep hs2
          clear hs1 hs2
          generalize clK f ba k = L at *
          generalize nK f ba k = N at *
          generalize f (nth ba k).name = y at *
          repeat' (first | (with_reducible first | refine awp_seq ?_ | refine awp_blockS ?_ | refine awp_blockC ?_ | refine awp_blockR ?_ | refine awp_skip ?_ | refine awp_ret ?_ | refine awp_exit ?_ | refine awp_region ?_ | refine awp_regionD (id := 2) 9 mixed (by decide +kernel) ?_ | refine awp_regionD (id := 5) 9 mixed (by decide +kernel) ?_ | refine awp_condM ?_ | refine And.intro ?_ ?_ | apply gQ_merge | apply gE_merge | exact EqV_w | exact EqE_w | exact EqV_ptr | exact EqE_ptr | exact EqV_msl | exact EqE_msl | exact EqV_agg | exact EqE_agg | exact EqV_fn | exact EqE_fn | exact EqV_gd | exact EqE_gd | refine gM_splitN ?_ ?_ | refine gM_split ?_ ?_ |  refine condM_splitDN ?_ ?_ | refine condM_splitD ?_ ?_ | refine condM_splitN ?_ ?_ | refine condM_split ?_ ?_ | refine condM_any ?_ ?_ | refine cw (c1) ?_ | refine cw (c7) ?_ | intro _) | (simp [*, hlt, cAcc, h0]) | (refine cw_eq (c1) ?_ ?_; (· (simp [*]; done))) | (refine cw_eq (c7) ?_ ?_; (· (simp [*]; done))))
          all_goals first
            | exact inI64 (by omega) (by omega)
            | omega
            | (refine loopK_normal _ _ _ _ _ (k + 1) _ ?_ (by first | omega | (dsimp only; omega) | (simp; omega)) ?_; (· omega); (refine le_gen [] ?_ ?_ <;> first | trivial | (simp [*, (show clK f ba (k + 1) = _ from ks1), (show nK f ba (k + 1) = _ from ks2), Nat.add_mul]; done)))
            | skip
    · have hke : k = ba.length := by omega
      subst hke
      clear kfa kfs kcl k0 k8 k1
      repeat' (first | (with_reducible first | refine awp_seq ?_ | refine awp_blockS ?_ | refine awp_blockC ?_ | refine awp_blockR ?_ | refine awp_skip ?_ | refine awp_ret ?_ | refine awp_exit ?_ | refine awp_region ?_ | refine awp_regionD (id := 2) 9 mixed (by decide +kernel) ?_ | refine awp_regionD (id := 5) 9 mixed (by decide +kernel) ?_ | refine awp_condM ?_ | refine And.intro ?_ ?_ | apply gQ_merge | apply gE_merge | exact EqV_w | exact EqE_w | exact EqV_ptr | exact EqE_ptr | exact EqV_msl | exact EqE_msl | exact EqV_agg | exact EqE_agg | exact EqV_fn | exact EqE_fn | exact EqV_gd | exact EqE_gd | refine gM_splitN ?_ ?_ | refine gM_split ?_ ?_ |  refine condM_splitDN ?_ ?_ | refine condM_splitD ?_ ?_ | refine condM_splitN ?_ ?_ | refine condM_split ?_ ?_ | refine condM_any ?_ ?_ | intro _) | (simp [*]))
      all_goals (refine finW_intro () ?_ ?_; (· trivial); (refine le_gen [] ?_ ?_ <;> first | trivial | (simp [*]; done)))
  · clear c1 c3 c4 c5 c6 hf kfa
    have hN := nK_abs f kfs ba ba.length
    have hL := clK_len f ba ba.length
    clear kfs
    generalize clK f ba ba.length = L at *
    generalize nK f ba ba.length = N at *
    by_cases h0 : N = 0
    · rw [if_pos h0] at kcl k0 k8 k1
      have cl := (show RealCall _ _ _ _ true from kcl)
      clear kcl
      by_cases he : L.length = 0
      · have hls : L = [] := List.eq_nil_of_length_eq_zero he
        have hR := (show L.length = 0 → R = noA 12 from k0) he
        unfold noA at hR
        subst hR
        subst hls
        clear k0 k8 k1 he
        repeat' (first | (with_reducible first | refine awp_seq ?_ | refine awp_blockS ?_ | refine awp_blockC ?_ | refine awp_blockR ?_ | refine awp_skip ?_ | refine awp_ret ?_ | refine awp_exit ?_ | refine awp_region ?_ | refine awp_regionD (id := 2) 9 mixed (by decide +kernel) ?_ | refine awp_regionD (id := 5) 9 mixed (by decide +kernel) ?_ | refine awp_condM ?_ | refine And.intro ?_ ?_ | apply gQ_merge | apply gE_merge | exact EqV_w | exact EqE_w | exact EqV_ptr | exact EqE_ptr | exact EqV_msl | exact EqE_msl | exact EqV_agg | exact EqE_agg | exact EqV_fn | exact EqE_fn | exact EqV_gd | exact EqE_gd | refine gM_splitN ?_ ?_ | refine gM_split ?_ ?_ |  refine condM_splitDN ?_ ?_ | refine condM_splitD ?_ ?_ | refine condM_splitN ?_ ?_ | refine condM_split ?_ ?_ | refine condM_any ?_ ?_ | intro _) | (simp [*, h0, repl]))
        all_goals rfl
      · have hnil : ¬ L = [] := fun e => he (by rw [e]; rfl)
        clear k0
        cases hB : L.any greatB with
        | true =>
          rw [hB] at cl
          have hR := (show ¬ L.length = 0 → muchL L = true → R = noA 8 from k8) he (by unfold muchL; rw [hB]; rfl)
          unfold noA at hR
          subst hR
          clear hB k8
          repeat' (first | (with_reducible first | refine awp_regionJ (id := 20) 1 Tryz.func58 (by kernel_rfl) rfl (by decide) rfl ?_ | refine awp_seq ?_ | refine awp_blockS ?_ | refine awp_blockC ?_ | refine awp_blockR ?_ | refine awp_skip ?_ | refine awp_ret ?_ | refine awp_exit ?_ | refine awp_region ?_ | refine awp_regionD (id := 2) 9 mixed (by decide +kernel) ?_ | refine awp_regionD (id := 5) 9 mixed (by decide +kernel) ?_ | refine awp_condM ?_ | refine And.intro ?_ ?_ | apply gQ_merge | apply gE_merge | exact EqV_w | exact EqE_w | exact EqV_ptr | exact EqE_ptr | exact EqV_msl | exact EqE_msl | exact EqV_agg | exact EqE_agg | exact EqV_fn | exact EqE_fn | exact EqV_gd | exact EqE_gd | refine gM_splitN ?_ ?_ | refine gM_split ?_ ?_ |  refine condM_splitDN ?_ ?_ | refine condM_splitD ?_ ?_ | refine condM_splitN ?_ ?_ | refine condM_split ?_ ?_ | refine condM_any ?_ ?_ | intro _) | (simp [*, h0, hnil, repl]))
          all_goals try omega
          refine inlM_intro (Nat.le_of_ble_eq_true (by kernel_rfl)) (by simp) rfl ?_
          repeat' (first | (with_reducible first | refine awp_seq ?_ | refine awp_blockS ?_ | refine awp_blockC ?_ | refine awp_blockR ?_ | refine awp_skip ?_ | refine awp_ret ?_ | refine awp_exit ?_ | refine awp_region ?_ | refine awp_condM ?_ | refine And.intro ?_ ?_ | apply gQ_merge | apply gE_merge | exact EqV_w | exact EqE_w | exact EqV_ptr | exact EqE_ptr | exact EqV_msl | exact EqE_msl | exact EqV_agg | exact EqE_agg | exact EqV_fn | exact EqE_fn | exact EqV_gd | exact EqE_gd | refine gM_splitN ?_ ?_ | refine gM_split ?_ ?_ |  refine condM_splitDN ?_ ?_ | refine condM_splitD ?_ ?_ | refine condM_splitN ?_ ?_ | refine condM_split ?_ ?_ | refine condM_any ?_ ?_ | refine cw (cl) ?_ | intro _) | (simp [*, h0, hnil, repl]) | (refine cw_eq (cl) ?_ ?_; (· (simp [*]; done))))
          simp [RetA, resL]
          repeat' (first | (with_reducible first | refine awp_seq ?_ | refine awp_blockS ?_ | refine awp_blockC ?_ | refine awp_blockR ?_ | refine awp_skip ?_ | refine awp_ret ?_ | refine awp_exit ?_ | refine awp_region ?_ | refine awp_regionD (id := 2) 9 mixed (by decide +kernel) ?_ | refine awp_regionD (id := 5) 9 mixed (by decide +kernel) ?_ | refine awp_condM ?_ | refine And.intro ?_ ?_ | apply gQ_merge | apply gE_merge | exact EqV_w | exact EqE_w | exact EqV_ptr | exact EqE_ptr | exact EqV_msl | exact EqE_msl | exact EqV_agg | exact EqE_agg | exact EqV_fn | exact EqE_fn | exact EqV_gd | exact EqE_gd | refine gM_splitN ?_ ?_ | refine gM_split ?_ ?_ |  refine condM_splitDN ?_ ?_ | refine condM_splitD ?_ ?_ | refine condM_splitN ?_ ?_ | refine condM_split ?_ ?_ | refine condM_any ?_ ?_ | intro _) | (simp [*, h0, hnil, repl]))
          all_goals rfl
        | false =>
          rw [hB] at cl
          by_cases hI2 : 12 < L.length
          · have hI : (12 : Int) < (L.length : Int) := by omega
            have hR := (show ¬ L.length = 0 → muchL L = true → R = noA 8 from k8) he (by unfold muchL; rw [decide_eq_true hI2, Bool.or_true])
            unfold noA at hR
            subst hR
            clear hI2 hB k8
            repeat' (first | (with_reducible first | refine awp_regionJ (id := 20) 1 Tryz.func58 (by kernel_rfl) rfl (by decide) rfl ?_ | refine awp_seq ?_ | refine awp_blockS ?_ | refine awp_blockC ?_ | refine awp_blockR ?_ | refine awp_skip ?_ | refine awp_ret ?_ | refine awp_exit ?_ | refine awp_region ?_ | refine awp_regionD (id := 2) 9 mixed (by decide +kernel) ?_ | refine awp_regionD (id := 5) 9 mixed (by decide +kernel) ?_ | refine awp_condM ?_ | refine And.intro ?_ ?_ | apply gQ_merge | apply gE_merge | exact EqV_w | exact EqE_w | exact EqV_ptr | exact EqE_ptr | exact EqV_msl | exact EqE_msl | exact EqV_agg | exact EqE_agg | exact EqV_fn | exact EqE_fn | exact EqV_gd | exact EqE_gd | refine gM_splitN ?_ ?_ | refine gM_split ?_ ?_ |  refine condM_splitDN ?_ ?_ | refine condM_splitD ?_ ?_ | refine condM_splitN ?_ ?_ | refine condM_split ?_ ?_ | refine condM_any ?_ ?_ | intro _) | (simp [*, h0, hnil, repl]))
            all_goals try omega
            refine inlM_intro (Nat.le_of_ble_eq_true (by kernel_rfl)) (by simp) rfl ?_
            repeat' (first | (with_reducible first | refine awp_seq ?_ | refine awp_blockS ?_ | refine awp_blockC ?_ | refine awp_blockR ?_ | refine awp_skip ?_ | refine awp_ret ?_ | refine awp_exit ?_ | refine awp_region ?_ | refine awp_condM ?_ | refine And.intro ?_ ?_ | apply gQ_merge | apply gE_merge | exact EqV_w | exact EqE_w | exact EqV_ptr | exact EqE_ptr | exact EqV_msl | exact EqE_msl | exact EqV_agg | exact EqE_agg | exact EqV_fn | exact EqE_fn | exact EqV_gd | exact EqE_gd | refine gM_splitN ?_ ?_ | refine gM_split ?_ ?_ |  refine condM_splitDN ?_ ?_ | refine condM_splitD ?_ ?_ | refine condM_splitN ?_ ?_ | refine condM_split ?_ ?_ | refine condM_any ?_ ?_ | refine cw (cl) ?_ | intro _) | (simp [*, h0, hnil, repl, hI]) | (refine cw_eq (cl) ?_ ?_; (· (simp [*]; done))))
            simp [RetA, resL]
            repeat' (first | (with_reducible first | refine awp_seq ?_ | refine awp_blockS ?_ | refine awp_blockC ?_ | refine awp_blockR ?_ | refine awp_skip ?_ | refine awp_ret ?_ | refine awp_exit ?_ | refine awp_region ?_ | refine awp_regionD (id := 2) 9 mixed (by decide +kernel) ?_ | refine awp_regionD (id := 5) 9 mixed (by decide +kernel) ?_ | refine awp_condM ?_ | refine And.intro ?_ ?_ | apply gQ_merge | apply gE_merge | exact EqV_w | exact EqE_w | exact EqV_ptr | exact EqE_ptr | exact EqV_msl | exact EqE_msl | exact EqV_agg | exact EqE_agg | exact EqV_fn | exact EqE_fn | exact EqV_gd | exact EqE_gd | refine gM_splitN ?_ ?_ | refine gM_split ?_ ?_ |  refine condM_splitDN ?_ ?_ | refine condM_splitD ?_ ?_ | refine condM_splitN ?_ ?_ | refine condM_split ?_ ?_ | refine condM_any ?_ ?_ | intro _) | (simp [*, h0, hnil, repl]))
            all_goals rfl
          · have hI : ¬ (12 : Int) < (L.length : Int) := by omega
            have hR := (show ¬ L.length = 0 → muchL L = false → R = yesA D ⟨#[99, 108, 111, 115, 105, 110, 103]⟩ L from k1) he (by unfold muchL; rw [hB, decide_eq_false hI2]; rfl)
            unfold yesA at hR
            subst hR
            clear hI2 hB k8 k1
            repeat' (first | (with_reducible first | refine awp_regionJ (id := 20) 1 Tryz.func58 (by kernel_rfl) rfl (by decide) rfl ?_ | refine awp_seq ?_ | refine awp_blockS ?_ | refine awp_blockC ?_ | refine awp_blockR ?_ | refine awp_skip ?_ | refine awp_ret ?_ | refine awp_exit ?_ | refine awp_region ?_ | refine awp_regionD (id := 2) 9 mixed (by decide +kernel) ?_ | refine awp_regionD (id := 5) 9 mixed (by decide +kernel) ?_ | refine awp_condM ?_ | refine And.intro ?_ ?_ | apply gQ_merge | apply gE_merge | exact EqV_w | exact EqE_w | exact EqV_ptr | exact EqE_ptr | exact EqV_msl | exact EqE_msl | exact EqV_agg | exact EqE_agg | exact EqV_fn | exact EqE_fn | exact EqV_gd | exact EqE_gd | refine gM_splitN ?_ ?_ | refine gM_split ?_ ?_ |  refine condM_splitDN ?_ ?_ | refine condM_splitD ?_ ?_ | refine condM_splitN ?_ ?_ | refine condM_split ?_ ?_ | refine condM_any ?_ ?_ | intro _) | (simp [*, h0, hnil, repl]))
            all_goals try omega
            refine inlM_intro (Nat.le_of_ble_eq_true (by kernel_rfl)) (by simp) rfl ?_
            repeat' (first | (with_reducible first | refine awp_seq ?_ | refine awp_blockS ?_ | refine awp_blockC ?_ | refine awp_blockR ?_ | refine awp_skip ?_ | refine awp_ret ?_ | refine awp_exit ?_ | refine awp_region ?_ | refine awp_condM ?_ | refine And.intro ?_ ?_ | apply gQ_merge | apply gE_merge | exact EqV_w | exact EqE_w | exact EqV_ptr | exact EqE_ptr | exact EqV_msl | exact EqE_msl | exact EqV_agg | exact EqE_agg | exact EqV_fn | exact EqE_fn | exact EqV_gd | exact EqE_gd | refine gM_splitN ?_ ?_ | refine gM_split ?_ ?_ |  refine condM_splitDN ?_ ?_ | refine condM_splitD ?_ ?_ | refine condM_splitN ?_ ?_ | refine condM_split ?_ ?_ | refine condM_any ?_ ?_ | refine cw (cl) ?_ | intro _) | (simp [*, h0, hnil, repl, hI]) | (refine cw_eq (cl) ?_ ?_; (· (simp [*]; done))))
            simp [RetA, resL]
            repeat' (first | (with_reducible first | refine awp_seq ?_ | refine awp_blockS ?_ | refine awp_blockC ?_ | refine awp_blockR ?_ | refine awp_skip ?_ | refine awp_ret ?_ | refine awp_exit ?_ | refine awp_region ?_ | refine awp_regionD (id := 2) 9 mixed (by decide +kernel) ?_ | refine awp_regionD (id := 5) 9 mixed (by decide +kernel) ?_ | refine awp_condM ?_ | refine And.intro ?_ ?_ | apply gQ_merge | apply gE_merge | exact EqV_w | exact EqE_w | exact EqV_ptr | exact EqE_ptr | exact EqV_msl | exact EqE_msl | exact EqV_agg | exact EqE_agg | exact EqV_fn | exact EqE_fn | exact EqV_gd | exact EqE_gd | refine gM_splitN ?_ ?_ | refine gM_split ?_ ?_ |  refine condM_splitDN ?_ ?_ | refine condM_splitD ?_ ?_ | refine condM_splitN ?_ ?_ | refine condM_split ?_ ?_ | refine condM_any ?_ ?_ | intro _) | (simp [*, h0, hnil, repl]))
    · rw [if_neg h0] at kcl k0 k8 k1
      have cl := (show RealCall _ _ _ _ true from kcl)
      clear kcl
      have ela : lA L ++ [.w false false (.str n), .w false false (.int .i64 N)] = lA (L ++ [⟨n, N⟩]) := lA_snoc _ _ _
      have elen : (L ++ [(⟨n, N⟩ : Line)]).length = L.length + 1 := by simp
      have hnil : ¬ L ++ [(⟨n, N⟩ : Line)] = [] := by simp
      generalize hls : L ++ [(⟨n, N⟩ : Line)] = l2 at *
      have hne : ¬ (L.length : Int) + 1 = 0 := by omega
      have hne2 : ¬ L.length + 1 = 0 := by omega
      clear hls k0
      have cl : RealCall Tryz.prog 102 [.sl (L.length + 1) (cLines l2), .fn 105 []] (.bool (l2.any greatB)) true := by rw [← elen]; exact cl
      cases hB : l2.any greatB with
      | true =>
        rw [hB] at cl
        have hR := (show ¬ l2.length = 0 → muchL l2 = true → R = noA 8 from k8) (by rw [elen]; exact hne2) (by unfold muchL; rw [hB]; rfl)
        unfold noA at hR
        subst hR
        clear hB k8
        repeat' (first | (with_reducible first | refine awp_regionJ (id := 20) 1 Tryz.func58 (by kernel_rfl) rfl (by decide) rfl ?_ | refine awp_seq ?_ | refine awp_blockS ?_ | refine awp_blockC ?_ | refine awp_blockR ?_ | refine awp_skip ?_ | refine awp_ret ?_ | refine awp_exit ?_ | refine awp_region ?_ | refine awp_regionD (id := 2) 9 mixed (by decide +kernel) ?_ | refine awp_regionD (id := 5) 9 mixed (by decide +kernel) ?_ | refine awp_condM ?_ | refine And.intro ?_ ?_ | apply gQ_merge | apply gE_merge | exact EqV_w | exact EqE_w | exact EqV_ptr | exact EqE_ptr | exact EqV_msl | exact EqE_msl | exact EqV_agg | exact EqE_agg | exact EqV_fn | exact EqE_fn | exact EqV_gd | exact EqE_gd | refine gM_splitN ?_ ?_ | refine gM_split ?_ ?_ |  refine condM_splitDN ?_ ?_ | refine condM_splitD ?_ ?_ | refine condM_splitN ?_ ?_ | refine condM_split ?_ ?_ | refine condM_any ?_ ?_ | intro _) | (simp [*, h0, hne, hne2, hnil, ela, Nat.add_mul, elen, repl]))
        all_goals try omega
        refine inlM_intro (Nat.le_of_ble_eq_true (by kernel_rfl)) (by simp) rfl ?_
        repeat' (first | (with_reducible first | refine awp_seq ?_ | refine awp_blockS ?_ | refine awp_blockC ?_ | refine awp_blockR ?_ | refine awp_skip ?_ | refine awp_ret ?_ | refine awp_exit ?_ | refine awp_region ?_ | refine awp_condM ?_ | refine And.intro ?_ ?_ | apply gQ_merge | apply gE_merge | exact EqV_w | exact EqE_w | exact EqV_ptr | exact EqE_ptr | exact EqV_msl | exact EqE_msl | exact EqV_agg | exact EqE_agg | exact EqV_fn | exact EqE_fn | exact EqV_gd | exact EqE_gd | refine gM_splitN ?_ ?_ | refine gM_split ?_ ?_ |  refine condM_splitDN ?_ ?_ | refine condM_splitD ?_ ?_ | refine condM_splitN ?_ ?_ | refine condM_split ?_ ?_ | refine condM_any ?_ ?_ | refine cw (cl) ?_ | intro _) | (simp [*, h0, hne, hne2, hnil, ela, Nat.add_mul, elen, repl]) | (refine cw_eq (cl) ?_ ?_; (· (simp [*]; done))))
        simp [RetA, resL]
        repeat' (first | (with_reducible first | refine awp_seq ?_ | refine awp_blockS ?_ | refine awp_blockC ?_ | refine awp_blockR ?_ | refine awp_skip ?_ | refine awp_ret ?_ | refine awp_exit ?_ | refine awp_region ?_ | refine awp_regionD (id := 2) 9 mixed (by decide +kernel) ?_ | refine awp_regionD (id := 5) 9 mixed (by decide +kernel) ?_ | refine awp_condM ?_ | refine And.intro ?_ ?_ | apply gQ_merge | apply gE_merge | exact EqV_w | exact EqE_w | exact EqV_ptr | exact EqE_ptr | exact EqV_msl | exact EqE_msl | exact EqV_agg | exact EqE_agg | exact EqV_fn | exact EqE_fn | exact EqV_gd | exact EqE_gd | refine gM_splitN ?_ ?_ | refine gM_split ?_ ?_ |  refine condM_splitDN ?_ ?_ | refine condM_splitD ?_ ?_ | refine condM_splitN ?_ ?_ | refine condM_split ?_ ?_ | refine condM_any ?_ ?_ | intro _) | (simp [*, h0, hne, hne2, hnil, ela, Nat.add_mul, elen, repl]))
        all_goals rfl
      | false =>
        rw [hB] at cl
        by_cases hI2 : 12 < l2.length
        · have hI : (12 : Int) < (l2.length : Int) := by omega
          have hR := (show ¬ l2.length = 0 → muchL l2 = true → R = noA 8 from k8) (by rw [elen]; exact hne2) (by unfold muchL; rw [decide_eq_true hI2, Bool.or_true])
          unfold noA at hR
          subst hR
          clear hI2 hB k8
          replace hI : (12 : Int) < (L.length : Int) + 1 := by omega
          repeat' (first | (with_reducible first | refine awp_regionJ (id := 20) 1 Tryz.func58 (by kernel_rfl) rfl (by decide) rfl ?_ | refine awp_seq ?_ | refine awp_blockS ?_ | refine awp_blockC ?_ | refine awp_blockR ?_ | refine awp_skip ?_ | refine awp_ret ?_ | refine awp_exit ?_ | refine awp_region ?_ | refine awp_regionD (id := 2) 9 mixed (by decide +kernel) ?_ | refine awp_regionD (id := 5) 9 mixed (by decide +kernel) ?_ | refine awp_condM ?_ | refine And.intro ?_ ?_ | apply gQ_merge | apply gE_merge | exact EqV_w | exact EqE_w | exact EqV_ptr | exact EqE_ptr | exact EqV_msl | exact EqE_msl | exact EqV_agg | exact EqE_agg | exact EqV_fn | exact EqE_fn | exact EqV_gd | exact EqE_gd | refine gM_splitN ?_ ?_ | refine gM_split ?_ ?_ |  refine condM_splitDN ?_ ?_ | refine condM_splitD ?_ ?_ | refine condM_splitN ?_ ?_ | refine condM_split ?_ ?_ | refine condM_any ?_ ?_ | intro _) | (simp [*, h0, hne, hne2, hnil, ela, Nat.add_mul, elen, repl]))
          all_goals try omega
          refine inlM_intro (Nat.le_of_ble_eq_true (by kernel_rfl)) (by simp) rfl ?_
          repeat' (first | (with_reducible first | refine awp_seq ?_ | refine awp_blockS ?_ | refine awp_blockC ?_ | refine awp_blockR ?_ | refine awp_skip ?_ | refine awp_ret ?_ | refine awp_exit ?_ | refine awp_region ?_ | refine awp_condM ?_ | refine And.intro ?_ ?_ | apply gQ_merge | apply gE_merge | exact EqV_w | exact EqE_w | exact EqV_ptr | exact EqE_ptr | exact EqV_msl | exact EqE_msl | exact EqV_agg | exact EqE_agg | exact EqV_fn | exact EqE_fn | exact EqV_gd | exact EqE_gd | refine gM_splitN ?_ ?_ | refine gM_split ?_ ?_ |  refine condM_splitDN ?_ ?_ | refine condM_splitD ?_ ?_ | refine condM_splitN ?_ ?_ | refine condM_split ?_ ?_ | refine condM_any ?_ ?_ | refine cw (cl) ?_ | intro _) | (simp [*, h0, hne, hne2, hnil, ela, Nat.add_mul, elen, repl, hI]) | (refine cw_eq (cl) ?_ ?_; (· (simp [*]; done))))
          simp [RetA, resL]
          repeat' (first | (with_reducible first | refine awp_seq ?_ | refine awp_blockS ?_ | refine awp_blockC ?_ | refine awp_blockR ?_ | refine awp_skip ?_ | refine awp_ret ?_ | refine awp_exit ?_ | refine awp_region ?_ | refine awp_regionD (id := 2) 9 mixed (by decide +kernel) ?_ | refine awp_regionD (id := 5) 9 mixed (by decide +kernel) ?_ | refine awp_condM ?_ | refine And.intro ?_ ?_ | apply gQ_merge | apply gE_merge | exact EqV_w | exact EqE_w | exact EqV_ptr | exact EqE_ptr | exact EqV_msl | exact EqE_msl | exact EqV_agg | exact EqE_agg | exact EqV_fn | exact EqE_fn | exact EqV_gd | exact EqE_gd | refine gM_splitN ?_ ?_ | refine gM_split ?_ ?_ |  refine condM_splitDN ?_ ?_ | refine condM_splitD ?_ ?_ | refine condM_splitN ?_ ?_ | refine condM_split ?_ ?_ | refine condM_any ?_ ?_ | intro _) | (simp [*, h0, hne, hne2, hnil, ela, Nat.add_mul, elen, repl]))
          all_goals rfl
        · have hI : ¬ (12 : Int) < (l2.length : Int) := by omega
          have hR := (show ¬ l2.length = 0 → muchL l2 = false → R = yesA D ⟨#[99, 108, 111, 115, 105, 110, 103]⟩ l2 from k1) (by rw [elen]; exact hne2) (by unfold muchL; rw [hB, decide_eq_false hI2]; rfl)
          unfold yesA at hR
          subst hR
          clear hI2 hB k8 k1
          replace hI : ¬ (12 : Int) < (L.length : Int) + 1 := by omega
          repeat' (first | (with_reducible first | refine awp_regionJ (id := 20) 1 Tryz.func58 (by kernel_rfl) rfl (by decide) rfl ?_ | refine awp_seq ?_ | refine awp_blockS ?_ | refine awp_blockC ?_ | refine awp_blockR ?_ | refine awp_skip ?_ | refine awp_ret ?_ | refine awp_exit ?_ | refine awp_region ?_ | refine awp_regionD (id := 2) 9 mixed (by decide +kernel) ?_ | refine awp_regionD (id := 5) 9 mixed (by decide +kernel) ?_ | refine awp_condM ?_ | refine And.intro ?_ ?_ | apply gQ_merge | apply gE_merge | exact EqV_w | exact EqE_w | exact EqV_ptr | exact EqE_ptr | exact EqV_msl | exact EqE_msl | exact EqV_agg | exact EqE_agg | exact EqV_fn | exact EqE_fn | exact EqV_gd | exact EqE_gd | refine gM_splitN ?_ ?_ | refine gM_split ?_ ?_ |  refine condM_splitDN ?_ ?_ | refine condM_splitD ?_ ?_ | refine condM_splitN ?_ ?_ | refine condM_split ?_ ?_ | refine condM_any ?_ ?_ | intro _) | (simp [*, h0, hne, hne2, hnil, ela, Nat.add_mul, elen, repl]))
          all_goals try omega
          refine inlM_intro (Nat.le_of_ble_eq_true (by kernel_rfl)) (by simp) rfl ?_
          repeat' (first | (with_reducible first | refine awp_seq ?_ | refine awp_blockS ?_ | refine awp_blockC ?_ | refine awp_blockR ?_ | refine awp_skip ?_ | refine awp_ret ?_ | refine awp_exit ?_ | refine awp_region ?_ | refine awp_condM ?_ | refine And.intro ?_ ?_ | apply gQ_merge | apply gE_merge | exact EqV_w | exact EqE_w | exact EqV_ptr | exact EqE_ptr | exact EqV_msl | exact EqE_msl | exact EqV_agg | exact EqE_agg | exact EqV_fn | exact EqE_fn | exact EqV_gd | exact EqE_gd | refine gM_splitN ?_ ?_ | refine gM_split ?_ ?_ |  refine condM_splitDN ?_ ?_ | refine condM_splitD ?_ ?_ | refine condM_splitN ?_ ?_ | refine condM_split ?_ ?_ | refine condM_any ?_ ?_ | refine cw (cl) ?_ | intro _) | (simp [*, h0, hne, hne2, hnil, ela, Nat.add_mul, elen, repl, hI]) | (refine cw_eq (cl) ?_ ?_; (· (simp [*]; done))))
          simp [RetA, resL]
          repeat' (first | (with_reducible first | refine awp_seq ?_ | refine awp_blockS ?_ | refine awp_blockC ?_ | refine awp_blockR ?_ | refine awp_skip ?_ | refine awp_ret ?_ | refine awp_exit ?_ | refine awp_region ?_ | refine awp_regionD (id := 2) 9 mixed (by decide +kernel) ?_ | refine awp_regionD (id := 5) 9 mixed (by decide +kernel) ?_ | refine awp_condM ?_ | refine And.intro ?_ ?_ | apply gQ_merge | apply gE_merge | exact EqV_w | exact EqE_w | exact EqV_ptr | exact EqE_ptr | exact EqV_msl | exact EqE_msl | exact EqV_agg | exact EqE_agg | exact EqV_fn | exact EqE_fn | exact EqV_gd | exact EqE_gd | refine gM_splitN ?_ ?_ | refine gM_split ?_ ?_ |  refine condM_splitDN ?_ ?_ | refine condM_splitD ?_ ?_ | refine condM_splitN ?_ ?_ | refine condM_split ?_ ?_ | refine condM_any ?_ ?_ | intro _) | (simp [*, h0, hne, hne2, hnil, ela, Nat.add_mul, elen, repl]))
theorem closingOf_c (b : Book) (hb : BookIn b) (m : Int) (n : ByteArray) : RealCall Tryz.prog 35 [.agg (cBook b), .int .i64 m, .str n] (.tup [.agg (cEntry (closeS b m n).1), .int .i64 (closeS b m n).2]) true := by
  unfold closeS
  by_cases h : clE b m n = 0
  · rw [if_pos h]
    cases hr : resB (nth b.accs (findS b.accs n).toNat) with
    | false =>
      rw [if_neg (by decide)]
      have hL : (clAll b m n).length < 100000 := by
        have h1 := clK_len (clF b m) b.accs b.accs.length
        have h2 := hb.accs.len
        unfold clAll
        split
        · omega
        · simp; omega
      refine closingOf_ok b hb m n h hr hL _ (fun he => ?_) (fun he hm => ?_) (fun he hm => ?_)
      · rw [if_pos he]; rfl
      · rw [if_neg he, show largestS ⟨clD m, bs [99, 108, 111, 115, 105, 110, 103], clAll b m n⟩ = (noEntry, 8) from if_pos hm]; rfl
      · rw [if_neg he, show largestS ⟨clD m, bs [99, 108, 111, 115, 105, 110, 103], clAll b m n⟩ = (⟨clD m, bs [99, 108, 111, 115, 105, 110, 103], clAll b m n⟩, 0) from if_neg (fun e => by rw [show muchL (clAll b m n) = true from e] at hm; cases hm)]; rfl
    | true =>
      rw [if_pos rfl]
      have hz := firstS_zero h
      have c1 := open_c b hb
      have hb0 := hz (bookS b).2 (by simp)
      have hm := winB_iff.1 (unless_zero (hz (errUnless (winB m 0 3332) 2) (by simp)) (by decide))
      have hh := unless_zero (hz (errUnless (hasS b.accs n) 6) (by simp)) (by decide)
      have c3 := accountErr_c b (by have := hb.accs.len; omega) n
      have c4 := first3_c (bookS b).2 (errUnless (winB m 0 3332) 2) (errUnless (hasS b.accs n) 6)
      change RealCall _ _ _ (.int .i64 (clE b m n)) true at c4
      rw [h] at c4
      rw [hb0] at c1 c4
      have hlen := hb.accs.len
      have c5 := at_c b.accs (by omega) n
      have hfd : ∃ i : Nat, findS b.accs n = (i : Int) ∧ i < b.accs.length := by
        have h1 := of_decide_eq_true ((find_has b.accs n).trans hh)
        have h2 := (find_bd b.accs n).2
        exact ⟨(findS b.accs n).toNat, by omega, by omega⟩
      obtain ⟨i, hi, hil⟩ := hfd
      rw [hi] at c5 hr
      rw [Int.toNat_natCast] at hr
      have c6 := isResult_c (nth b.accs i)
      change RealCall _ _ _ (.bool (resB (nth b.accs i))) true at c6
      rw [hr] at c6
      clear hb0 h hz hr hi hh
      obtain ⟨ba, be, bc⟩ := b
      unfold cBook cAcc noEntry cEntry at *
      dsimp only at *
      refine realcall_intro Tryz.func35 (by kernel_rfl) rfl (Nat.le_of_ble_eq_true (by kernel_rfl)) ?_
      simp only [Tryz.results35, Tryz.ntmps35]
      repeat' (first | (with_reducible first | refine awp_seq ?_ | refine awp_blockS ?_ | refine awp_blockC ?_ | refine awp_blockR ?_ | refine awp_skip ?_ | refine awp_ret ?_ | refine awp_exit ?_ | refine awp_region ?_ | refine awp_regionD (id := 2) 9 mixed (by decide +kernel) ?_ | refine awp_regionD (id := 5) 9 mixed (by decide +kernel) ?_ | refine awp_condM ?_ | refine And.intro ?_ ?_ | apply gQ_merge | apply gE_merge | exact EqV_w | exact EqE_w | exact EqV_ptr | exact EqE_ptr | exact EqV_msl | exact EqE_msl | exact EqV_agg | exact EqE_agg | exact EqV_fn | exact EqE_fn | exact EqV_gd | exact EqE_gd | refine gM_splitN ?_ ?_ | refine gM_split ?_ ?_ |  refine condM_splitDN ?_ ?_ | refine condM_splitD ?_ ?_ | refine condM_splitN ?_ ?_ | refine condM_split ?_ ?_ | refine condM_any ?_ ?_ | refine cw (c1) ?_ | refine cw (c3) ?_ | refine cw (c4) ?_ | refine cw (c5) ?_ | refine cw (c6) ?_ | refine cw (within_c _ _ _) ?_ | refine cw (unless_c _ _) ?_ | intro _) | (simp [*, hil, cAcc]) | (refine cw_eq (c1) ?_ ?_; (· (simp [*]; done))) | (refine cw_eq (c3) ?_ ?_; (· (simp [*]; done))) | (refine cw_eq (c4) ?_ ?_; (· (simp [*]; done))) | (refine cw_eq (c5) ?_ ?_; (· (simp [*]; done))) | (refine cw_eq (c6) ?_ ?_; (· (simp [*]; done))) | (refine cw_eq (within_c _ _ _) ?_ ?_; (· (simp [*]; done))) | (refine cw_eq (unless_c _ _) ?_ ?_; (· (simp [*]; done))))
      all_goals first
        | omega
        | rfl
        | skip
  · rw [if_neg h]
    have c1 := open_c b hb
    have c3 := accountErr_c b (by have := hb.accs.len; omega) n
    have c4 := first3_c (bookS b).2 (errUnless (winB m 0 3332) 2) (errUnless (hasS b.accs n) 6)
    change RealCall _ _ _ (.int .i64 (clE b m n)) true at c4
    generalize clE b m n = X at *
    generalize (bookS b).2 = Y at *
    obtain ⟨ba, be, bc⟩ := b
    unfold cBook noEntry cEntry at *
    dsimp only at *
    refine realcall_intro Tryz.func35 (by kernel_rfl) rfl (Nat.le_of_ble_eq_true (by kernel_rfl)) ?_
    simp only [Tryz.results35, Tryz.ntmps35]
    repeat' (first | (with_reducible first | refine awp_seq ?_ | refine awp_blockS ?_ | refine awp_blockC ?_ | refine awp_blockR ?_ | refine awp_skip ?_ | refine awp_ret ?_ | refine awp_exit ?_ | refine awp_region ?_ | refine awp_regionD (id := 2) 9 mixed (by decide +kernel) ?_ | refine awp_regionD (id := 5) 9 mixed (by decide +kernel) ?_ | refine awp_condM ?_ | refine And.intro ?_ ?_ | apply gQ_merge | apply gE_merge | exact EqV_w | exact EqE_w | exact EqV_ptr | exact EqE_ptr | exact EqV_msl | exact EqE_msl | exact EqV_agg | exact EqE_agg | exact EqV_fn | exact EqE_fn | exact EqV_gd | exact EqE_gd | refine gM_splitN ?_ ?_ | refine gM_split ?_ ?_ |  refine condM_splitDN ?_ ?_ | refine condM_splitD ?_ ?_ | refine condM_splitN ?_ ?_ | refine condM_split ?_ ?_ | refine condM_any ?_ ?_ | refine cw (c1) ?_ | refine cw (c3) ?_ | refine cw (c4) ?_ | refine cw (within_c _ _ _) ?_ | refine cw (unless_c _ _) ?_ | intro _) | (simp [*, h]) | (refine cw_eq (c1) ?_ ?_; (· (simp [*]; done))) | (refine cw_eq (c3) ?_ ?_; (· (simp [*]; done))) | (refine cw_eq (c4) ?_ ?_; (· (simp [*]; done))) | (refine cw_eq (within_c _ _ _) ?_ ?_; (· (simp [*]; done))) | (refine cw_eq (unless_c _ _) ?_ ?_; (· (simp [*]; done))))
    all_goals rfl
end Go.Proofs.YtpjhpmpbdfeajaaGreatDoor

