/- Contracts of functions for this claim: lemmas alone. -/
import Derived.Test.YtlcimflkjfbaoaaGreatP22
import Derived.Test.YtlcimflkjfbaoaaGreatP17
import Derived.Test.YtlcimflkjfbaoaaGreatP20
set_option linter.unusedSimpArgs false
set_option linter.unusedVariables false
namespace Go.Proofs.YtlcimflkjfbaoaaGreat
open Go Go.Fi
set_option maxRecDepth 20000

/-! ### decisions, and the law's examples -/
theorem moneyE_zero {l : List Int} (h : moneyE l = 0) : ∀ x ∈ l, 0 ≤ x ∧ x ≤ 1000000000 := by
  unfold moneyE at h
  have h1 := unless_zero h (by decide)
  intro x hx
  by_cases hw : winB x 0 1000000000 = true
  · exact winB_iff.1 hw
  · rw [List.any_eq_true.2 ⟨x, hx, by simpa using hw⟩] at h1
    cases h1
def decH (c : Compl) : Int := firstS [dateE c.date, noteE c.note, moneyE [c.paid, c.lo, c.hi, c.slack], errUnless (decide (c.lo ≤ c.hi)) 9]
def decS (c : Compl) : Int × Int × Int := if decH c = 0 then (if c.paid - c.hi ≤ 0 then (0, 0, 0) else if c.paid - c.hi ≤ c.slack then (0, 1, 0) else (c.paid - c.hi, 2, 0)) else (0, 0, decH c)
theorem decH_zero {c : Compl} (h : decH c = 0) : (0 ≤ c.paid ∧ c.paid ≤ 1000000000) ∧ (0 ≤ c.hi ∧ c.hi ≤ 1000000000) := by
  have hz := moneyE_zero (firstS_zero h (moneyE [c.paid, c.lo, c.hi, c.slack]) (by simp))
  exact ⟨hz c.paid (by simp), hz c.hi (by simp)⟩
theorem decide_c (c : Compl) (hn : c.note.size < 1000000) : RealCall Tryz.prog 9 [.agg (cCompl c)] (.tup [.int .i64 (decS c).1, .int .i64 (decS c).2.1, .int .i64 (decS c).2.2]) true := by
  have c1 := dateErr_c c.date
  have c2 := noteErr_c c.note hn
  have c3 := moneyErr_c [c.paid, c.lo, c.hi, c.slack] (show 4 < 100000 by decide)
  change RealCall _ _ [.sl 4 [.int .i64 c.paid, .int .i64 c.lo, .int .i64 c.hi, .int .i64 c.slack]] _ _ at c3
  have c4 := first4_c (dateE c.date) (noteE c.note) (moneyE [c.paid, c.lo, c.hi, c.slack]) (errUnless (decide (c.lo ≤ c.hi)) 9)
  change RealCall _ _ _ (.int .i64 (decH c)) true at c4
  unfold decS
  by_cases h : decH c = 0
  · obtain ⟨⟨p1, p2⟩, q1, q2⟩ := decH_zero h
    rw [if_pos h]
    rw [h] at c4
    clear h
    obtain ⟨cd, cn, cp, cl, ch, cs⟩ := c
    unfold cCompl
    dsimp only at *
    by_cases h1 : cp - ch ≤ 0
    · rw [if_pos h1]
      refine realcall_intro Tryz.func9 (by kernel_rfl) rfl (Nat.le_of_ble_eq_true (by kernel_rfl)) ?_
      simp only [Tryz.results9, Tryz.ntmps9]
      repeat' (first | (with_reducible first | refine awp_seq ?_ | refine awp_blockS ?_ | refine awp_blockC ?_ | refine awp_blockR ?_ | refine awp_skip ?_ | refine awp_ret ?_ | refine awp_exit ?_ | refine awp_region ?_ | refine awp_regionD (id := 1) 29 mixed (by decide +kernel) ?_ | refine awp_condM ?_ | refine And.intro ?_ ?_ | apply gQ_merge | apply gE_merge | exact EqV_w | exact EqE_w | exact EqV_ptr | exact EqE_ptr | exact EqV_msl | exact EqE_msl | exact EqV_agg | exact EqE_agg | exact EqV_fn | exact EqE_fn | exact EqV_gd | exact EqE_gd | refine gM_splitN ?_ ?_ | refine gM_split ?_ ?_ |  refine condM_splitDN ?_ ?_ | refine condM_splitD ?_ ?_ | refine condM_splitN ?_ ?_ | refine condM_split ?_ ?_ | refine condM_any ?_ ?_ | refine cw (c1) ?_ | refine cw (c2) ?_ | refine cw (c3) ?_ | refine cw (c4) ?_ | refine cw (unless_c _ _) ?_ | intro _) | (simp [*, h1]) | (refine cw_eq (c1) ?_ ?_; (· (simp [*]; done))) | (refine cw_eq (c2) ?_ ?_; (· (simp [*]; done))) | (refine cw_eq (c3) ?_ ?_; (· (simp [*]; done))) | (refine cw_eq (c4) ?_ ?_; (· (simp [*]; done))) | (refine cw_eq (unless_c _ _) ?_ ?_; (· (simp [*]; done))))
      all_goals exact inI64 (by omega) (by omega)
    · rw [if_neg h1]
      by_cases h2 : cp - ch ≤ cs
      · rw [if_pos h2]
        refine realcall_intro Tryz.func9 (by kernel_rfl) rfl (Nat.le_of_ble_eq_true (by kernel_rfl)) ?_
        simp only [Tryz.results9, Tryz.ntmps9]
        repeat' (first | (with_reducible first | refine awp_seq ?_ | refine awp_blockS ?_ | refine awp_blockC ?_ | refine awp_blockR ?_ | refine awp_skip ?_ | refine awp_ret ?_ | refine awp_exit ?_ | refine awp_region ?_ | refine awp_regionD (id := 1) 29 mixed (by decide +kernel) ?_ | refine awp_condM ?_ | refine And.intro ?_ ?_ | apply gQ_merge | apply gE_merge | exact EqV_w | exact EqE_w | exact EqV_ptr | exact EqE_ptr | exact EqV_msl | exact EqE_msl | exact EqV_agg | exact EqE_agg | exact EqV_fn | exact EqE_fn | exact EqV_gd | exact EqE_gd | refine gM_splitN ?_ ?_ | refine gM_split ?_ ?_ |  refine condM_splitDN ?_ ?_ | refine condM_splitD ?_ ?_ | refine condM_splitN ?_ ?_ | refine condM_split ?_ ?_ | refine condM_any ?_ ?_ | refine cw (c1) ?_ | refine cw (c2) ?_ | refine cw (c3) ?_ | refine cw (c4) ?_ | refine cw (unless_c _ _) ?_ | intro _) | (simp [*, h1, h2]) | (refine cw_eq (c1) ?_ ?_; (· (simp [*]; done))) | (refine cw_eq (c2) ?_ ?_; (· (simp [*]; done))) | (refine cw_eq (c3) ?_ ?_; (· (simp [*]; done))) | (refine cw_eq (c4) ?_ ?_; (· (simp [*]; done))) | (refine cw_eq (unless_c _ _) ?_ ?_; (· (simp [*]; done))))
        all_goals exact inI64 (by omega) (by omega)
      · rw [if_neg h2]
        refine realcall_intro Tryz.func9 (by kernel_rfl) rfl (Nat.le_of_ble_eq_true (by kernel_rfl)) ?_
        simp only [Tryz.results9, Tryz.ntmps9]
        repeat' (first | (with_reducible first | refine awp_seq ?_ | refine awp_blockS ?_ | refine awp_blockC ?_ | refine awp_blockR ?_ | refine awp_skip ?_ | refine awp_ret ?_ | refine awp_exit ?_ | refine awp_region ?_ | refine awp_regionD (id := 1) 29 mixed (by decide +kernel) ?_ | refine awp_condM ?_ | refine And.intro ?_ ?_ | apply gQ_merge | apply gE_merge | exact EqV_w | exact EqE_w | exact EqV_ptr | exact EqE_ptr | exact EqV_msl | exact EqE_msl | exact EqV_agg | exact EqE_agg | exact EqV_fn | exact EqE_fn | exact EqV_gd | exact EqE_gd | refine gM_splitN ?_ ?_ | refine gM_split ?_ ?_ |  refine condM_splitDN ?_ ?_ | refine condM_splitD ?_ ?_ | refine condM_splitN ?_ ?_ | refine condM_split ?_ ?_ | refine condM_any ?_ ?_ | refine cw (c1) ?_ | refine cw (c2) ?_ | refine cw (c3) ?_ | refine cw (c4) ?_ | refine cw (unless_c _ _) ?_ | intro _) | (simp [*, h1, h2]) | (refine cw_eq (c1) ?_ ?_; (· (simp [*]; done))) | (refine cw_eq (c2) ?_ ?_; (· (simp [*]; done))) | (refine cw_eq (c3) ?_ ?_; (· (simp [*]; done))) | (refine cw_eq (c4) ?_ ?_; (· (simp [*]; done))) | (refine cw_eq (unless_c _ _) ?_ ?_; (· (simp [*]; done))))
        all_goals exact inI64 (by omega) (by omega)
  · rw [if_neg h]
    obtain ⟨cd, cn, cp, cl, ch, cs⟩ := c
    unfold cCompl
    dsimp only at *
    generalize decH ⟨cd, cn, cp, cl, ch, cs⟩ = H at *
    refine realcall_intro Tryz.func9 (by kernel_rfl) rfl (Nat.le_of_ble_eq_true (by kernel_rfl)) ?_
    simp only [Tryz.results9, Tryz.ntmps9]
    repeat' (first | (with_reducible first | refine awp_seq ?_ | refine awp_blockS ?_ | refine awp_blockC ?_ | refine awp_blockR ?_ | refine awp_skip ?_ | refine awp_ret ?_ | refine awp_exit ?_ | refine awp_region ?_ | refine awp_regionD (id := 1) 29 mixed (by decide +kernel) ?_ | refine awp_condM ?_ | refine And.intro ?_ ?_ | apply gQ_merge | apply gE_merge | exact EqV_w | exact EqE_w | exact EqV_ptr | exact EqE_ptr | exact EqV_msl | exact EqE_msl | exact EqV_agg | exact EqE_agg | exact EqV_fn | exact EqE_fn | exact EqV_gd | exact EqE_gd | refine gM_splitN ?_ ?_ | refine gM_split ?_ ?_ |  refine condM_splitDN ?_ ?_ | refine condM_splitD ?_ ?_ | refine condM_splitN ?_ ?_ | refine condM_split ?_ ?_ | refine condM_any ?_ ?_ | refine cw (c1) ?_ | refine cw (c2) ?_ | refine cw (c3) ?_ | refine cw (c4) ?_ | refine cw (unless_c _ _) ?_ | intro _) | (simp [*, h]) | (refine cw_eq (c1) ?_ ?_; (· (simp [*]; done))) | (refine cw_eq (c2) ?_ ?_; (· (simp [*]; done))) | (refine cw_eq (c3) ?_ ?_; (· (simp [*]; done))) | (refine cw_eq (c4) ?_ ?_; (· (simp [*]; done))) | (refine cw_eq (unless_c _ _) ?_ ?_; (· (simp [*]; done))))
theorem ints_eq (l : List Int) (hl : l.length < 100000) : RealCall Tryz.prog 18 [.sl l.length (ints l), .sl l.length (ints l)] (.bool true) true := by
  refine realcall_intro Tryz.func18 (by kernel_rfl) rfl (Nat.le_of_ble_eq_true (by kernel_rfl)) ?_
  simp only [Tryz.results18, Tryz.ntmps18]
  repeat' (first | (with_reducible first | refine awp_seq ?_ | refine awp_blockS ?_ | refine awp_blockC ?_ | refine awp_blockR ?_ | refine awp_skip ?_ | refine awp_ret ?_ | refine awp_exit ?_ | refine awp_region ?_ | refine awp_regionD (id := 6) 9 mixed (by decide +kernel) ?_ | refine awp_condM ?_ | refine And.intro ?_ ?_ | apply gQ_merge | apply gE_merge | exact EqV_w | exact EqE_w | exact EqV_ptr | exact EqE_ptr | exact EqV_msl | exact EqE_msl | exact EqV_agg | exact EqE_agg | exact EqV_fn | exact EqE_fn | exact EqV_gd | exact EqE_gd | refine gM_splitN ?_ ?_ | refine gM_split ?_ ?_ |  refine condM_splitDN ?_ ?_ | refine condM_splitD ?_ ?_ | refine condM_splitN ?_ ?_ | refine condM_split ?_ ?_ | refine condM_any ?_ ?_ | intro _) | (simp [*]))
  refine awp_for3 (fun (k : Nat) => k ≤ l.length) [0, 1] (fun (k : Nat) => [(5, .w false false (.int .i64 k))]) [] (fun (k : Nat) => []) (fun (k : Nat) => l.length - k) (fun (_u : Unit) => True) [] (fun (_u : Unit) => []) [] (fun (_u : Unit) => []) (0) (Nat.zero_le _) (by simp) (by simp) (fun k hk => ?_) (fun _u hf => ?_)
  · by_cases hlt : k < l.length
    · repeat' (first | (with_reducible first | refine awp_seq ?_ | refine awp_blockS ?_ | refine awp_blockC ?_ | refine awp_blockR ?_ | refine awp_skip ?_ | refine awp_ret ?_ | refine awp_exit ?_ | refine awp_region ?_ | refine awp_regionD (id := 6) 9 mixed (by decide +kernel) ?_ | refine awp_condM ?_ | refine And.intro ?_ ?_ | apply gQ_merge | apply gE_merge | exact EqV_w | exact EqE_w | exact EqV_ptr | exact EqE_ptr | exact EqV_msl | exact EqE_msl | exact EqV_agg | exact EqE_agg | exact EqV_fn | exact EqE_fn | exact EqV_gd | exact EqE_gd | refine gM_splitN ?_ ?_ | refine gM_split ?_ ?_ |  refine condM_splitDN ?_ ?_ | refine condM_splitD ?_ ?_ | refine condM_splitN ?_ ?_ | refine condM_split ?_ ?_ | refine condM_any ?_ ?_ | intro _) | (simp [*, hlt]))
      all_goals first
        | exact inI64 (by omega) (by omega)
        | omega
        | (refine loopK_normal _ _ _ _ _ (k + 1) _ ?_ (by first | omega | (dsimp only; omega) | (simp; omega)) ?_; (· omega); (refine le_of ?_ ?_ <;> first | trivial | (simp [*]; done)))
        | skip
    · have hke : k = l.length := by omega
      subst hke
      repeat' (first | (with_reducible first | refine awp_seq ?_ | refine awp_blockS ?_ | refine awp_blockC ?_ | refine awp_blockR ?_ | refine awp_skip ?_ | refine awp_ret ?_ | refine awp_exit ?_ | refine awp_region ?_ | refine awp_regionD (id := 6) 9 mixed (by decide +kernel) ?_ | refine awp_condM ?_ | refine And.intro ?_ ?_ | apply gQ_merge | apply gE_merge | exact EqV_w | exact EqE_w | exact EqV_ptr | exact EqE_ptr | exact EqV_msl | exact EqE_msl | exact EqV_agg | exact EqE_agg | exact EqV_fn | exact EqE_fn | exact EqV_gd | exact EqE_gd | refine gM_splitN ?_ ?_ | refine gM_split ?_ ?_ |  refine condM_splitDN ?_ ?_ | refine condM_splitD ?_ ?_ | refine condM_splitN ?_ ?_ | refine condM_split ?_ ?_ | refine condM_any ?_ ?_ | intro _) | (simp [*]))
      all_goals (refine finW_intro () ?_ ?_; (· trivial); (refine le_of ?_ ?_ <;> first | trivial | (simp [*]; done)))
  · clear hf
    repeat' (first | (with_reducible first | refine awp_seq ?_ | refine awp_blockS ?_ | refine awp_blockC ?_ | refine awp_blockR ?_ | refine awp_skip ?_ | refine awp_ret ?_ | refine awp_exit ?_ | refine awp_region ?_ | refine awp_regionD (id := 6) 9 mixed (by decide +kernel) ?_ | refine awp_condM ?_ | refine And.intro ?_ ?_ | apply gQ_merge | apply gE_merge | exact EqV_w | exact EqE_w | exact EqV_ptr | exact EqE_ptr | exact EqV_msl | exact EqE_msl | exact EqV_agg | exact EqE_agg | exact EqV_fn | exact EqE_fn | exact EqV_gd | exact EqE_gd | refine gM_splitN ?_ ?_ | refine gM_split ?_ ?_ |  refine condM_splitDN ?_ ?_ | refine condM_splitD ?_ ?_ | refine condM_splitN ?_ ?_ | refine condM_split ?_ ?_ | refine condM_any ?_ ?_ | intro _) | (simp [*]))
def bs (l : List UInt8) : ByteArray := ⟨l.toArray⟩
def exAccs : List Acc := [⟨bs [99, 97, 115, 104], 0⟩, ⟨bs [118, 111, 117, 99, 104, 101, 114, 115], 0⟩, ⟨bs [97, 110, 110], 1⟩, ⟨bs [111, 119, 110, 101, 114], 1⟩, ⟨bs [111, 102, 102, 105, 99, 101], 2⟩]
def exRule : Rule := ⟨bs [111, 119, 110, 101, 114], bs [97, 110, 110], bs [111, 102, 102, 105, 99, 101], 50, 40, 10, bs [99, 97, 115, 104], bs [118, 111, 117, 99, 104, 101, 114, 115]⟩
def exTrip : Trip := ⟨12, bs [116, 114, 105, 112, 49], 1001, 99, 500⟩
theorem names_c : RealCall Tryz.prog 11 [] (.sl 5 (cAccs exAccs)) true := by
  refine realcall_intro Tryz.func11 (by kernel_rfl) rfl (Nat.le_of_ble_eq_true (by kernel_rfl)) ?_
  simp only [Tryz.results11, Tryz.ntmps11]
  repeat' (first | (with_reducible first | refine awp_seq ?_ | refine awp_blockS ?_ | refine awp_blockC ?_ | refine awp_blockR ?_ | refine awp_skip ?_ | refine awp_ret ?_ | refine awp_exit ?_ | refine awp_region ?_ | refine awp_condM ?_ | refine And.intro ?_ ?_ | apply gQ_merge | apply gE_merge | exact EqV_w | exact EqE_w | exact EqV_ptr | exact EqE_ptr | exact EqV_msl | exact EqE_msl | exact EqV_agg | exact EqE_agg | exact EqV_fn | exact EqE_fn | exact EqV_gd | exact EqE_gd | refine gM_splitN ?_ ?_ | refine gM_split ?_ ?_ |  refine condM_splitDN ?_ ?_ | refine condM_splitD ?_ ?_ | refine condM_splitN ?_ ?_ | refine condM_split ?_ ?_ | refine condM_any ?_ ?_ | intro _) | (simp [*, repl]))
  all_goals rfl
theorem rule_c : RealCall Tryz.prog 12 [] (.agg (cRule exRule)) true := by
  refine realcall_intro Tryz.func12 (by kernel_rfl) rfl (Nat.le_of_ble_eq_true (by kernel_rfl)) ?_
  simp only [Tryz.results12, Tryz.ntmps12]
  repeat' (first | (with_reducible first | refine awp_seq ?_ | refine awp_blockS ?_ | refine awp_blockC ?_ | refine awp_blockR ?_ | refine awp_skip ?_ | refine awp_ret ?_ | refine awp_exit ?_ | refine awp_region ?_ | refine awp_condM ?_ | refine And.intro ?_ ?_ | apply gQ_merge | apply gE_merge | exact EqV_w | exact EqE_w | exact EqV_ptr | exact EqE_ptr | exact EqV_msl | exact EqE_msl | exact EqV_agg | exact EqE_agg | exact EqV_fn | exact EqE_fn | exact EqV_gd | exact EqE_gd | refine gM_splitN ?_ ?_ | refine gM_split ?_ ?_ |  refine condM_splitDN ?_ ?_ | refine condM_splitD ?_ ?_ | refine condM_splitN ?_ ?_ | refine condM_split ?_ ?_ | refine condM_any ?_ ?_ | intro _) | (simp [*, repl]))
  all_goals rfl
theorem trip_c : RealCall Tryz.prog 17 [] (.agg (cTrip exTrip)) true := by
  refine realcall_intro Tryz.func17 (by kernel_rfl) rfl (Nat.le_of_ble_eq_true (by kernel_rfl)) ?_
  simp only [Tryz.results17, Tryz.ntmps17]
  repeat' (first | (with_reducible first | refine awp_seq ?_ | refine awp_blockS ?_ | refine awp_blockC ?_ | refine awp_blockR ?_ | refine awp_skip ?_ | refine awp_ret ?_ | refine awp_exit ?_ | refine awp_region ?_ | refine awp_condM ?_ | refine And.intro ?_ ?_ | apply gQ_merge | apply gE_merge | exact EqV_w | exact EqE_w | exact EqV_ptr | exact EqE_ptr | exact EqV_msl | exact EqE_msl | exact EqV_agg | exact EqE_agg | exact EqV_fn | exact EqE_fn | exact EqV_gd | exact EqE_gd | refine gM_splitN ?_ ?_ | refine gM_split ?_ ?_ |  refine condM_splitDN ?_ ?_ | refine condM_splitD ?_ ?_ | refine condM_splitN ?_ ?_ | refine condM_split ?_ ?_ | refine condM_any ?_ ?_ | intro _) | (simp [*, repl]))
  all_goals rfl
end Go.Proofs.YtlcimflkjfbaoaaGreat
namespace Go.Proofs.YtlcimflkjfbaoaaGreat
open Go Go.Fi
set_option maxRecDepth 20000

/-! ### what a book that is right is like -/
theorem linesF_zero {a : List Acc} : ∀ (l : List Line) (i : Nat) (s : Int), (linesF a l i s).2 = 0 → ∀ k, k < l.length → lineE a (nth l k) = 0
  | [], _, _, _, k, hk => by cases hk
  | y :: r, i, s, h, k, hk => by
    unfold linesF at h
    by_cases hy : lineE a y = 0
    · rw [if_pos hy] at h
      cases k with
      | zero => exact hy
      | succ k => exact linesF_zero r _ _ h k (by simpa using hk)
    · rw [if_neg hy] at h; exact absurd h hy
theorem entryS_zero {a : List Acc} {e : Entry} (h : (entryS a e).2 = 0) : headE e = 0 ∧ ∀ k, k < e.lines.length → lineE a (nth e.lines k) = 0 := by
  unfold entryS at h
  by_cases hh : headE e = 0
  · rw [if_pos hh] at h; exact ⟨hh, linesF_zero _ _ _ h⟩
  · rw [if_neg hh] at h; exact absurd h hh
theorem entE_zero {a : List Acc} {s : Int} {e : Entry} (h : entE a s e = 0) : (entryS a e).2 = 0 ∧ s ≤ e.date :=
  ⟨firstS_zero h _ (by simp), of_decide_eq_true (unless_zero (firstS_zero h (errUnless (decide (s ≤ e.date)) 9) (by simp)) (by decide))⟩
theorem bookF_zero {a : List Acc} {c : Int} : ∀ (l : List Entry) (i : Nat) (s : Int), (bookF a c l i s).2 = 0 → ∀ k, k < l.length → (entryS a (nth l k)).2 = 0
  | [], _, _, _, k, hk => by cases hk
  | y :: r, i, s, h, k, hk => by
    unfold bookF at h
    by_cases hy : entE a s y = 0
    · rw [if_pos hy] at h
      cases k with
      | zero => exact (entE_zero hy).1
      | succ k => exact bookF_zero r _ _ h k (by simpa using hk)
    · rw [if_neg hy] at h; exact absurd h hy
structure BookRight (b : Book) : Prop where
  accs : (accsS b.accs).2 = 0
  len : b.entries.length ≤ 100
  ent : ∀ k, k < b.entries.length → (entryS b.accs (nth b.entries k)).2 = 0
theorem bookS_zero {b : Book} (h : (bookS b).2 = 0) : BookRight b := by
  unfold bookS at h
  by_cases hh : bookH b = 0
  · rw [if_pos hh] at h
    obtain ⟨h1, h2⟩ := bookH_zero hh
    exact ⟨h1, h2, bookF_zero _ _ _ h⟩
  · rw [if_neg hh] at h; exact absurd h hh
structure EntsTight (l : List Entry) : Prop where
  len : l.length ≤ 100
  lines : ∀ k, k < l.length → (nth l k).lines.length ≤ 12
  amt : ∀ k, k < l.length → ∀ j, j < (nth l k).lines.length → -1000000000 ≤ (nth (nth l k).lines j).amt ∧ (nth (nth l k).lines j).amt ≤ 1000000000
theorem BookRight.tight {b : Book} (h : BookRight b) : EntsTight b.entries :=
  ⟨h.len, fun k hk => (headE_zero (entryS_zero (h.ent k hk)).1).2.2.2.2, fun k hk j hj => (lineE_zero ((entryS_zero (h.ent k hk)).2 j hj)).2.2⟩
theorem EntsTight.ents {l : List Entry} (h : EntsTight l) : EntsIn l :=
  ⟨by have := h.len; omega, fun k hk => ⟨by have := h.lines k hk; omega, h.amt k hk⟩⟩
theorem EntsTight.bal {l : List Entry} (h : EntsTight l) (n : ByteArray) (d : Int) : ∀ k, k ≤ l.length → -(12000000000 * (k : Int)) ≤ balS n d (l.take k) ∧ balS n d (l.take k) ≤ 12000000000 * (k : Int)
  | 0, _ => by simp
  | k + 1, hk => by
    have ih := h.bal n d k (by omega)
    rw [balS_succ n d l k (by omega)]
    have hp := putS_abs n (nth l k).lines (h.amt k (by omega))
    have hl := h.lines k (by omega)
    split <;> omega
theorem EntsTight.small {l : List Entry} (h : EntsTight l) (n : ByteArray) (d : Int) : -1200000000000 ≤ balS n d l ∧ balS n d l ≤ 1200000000000 := by
  have hb := h.bal n d l.length (Nat.le_refl _)
  rw [List.take_length] at hb
  have := h.len
  omega
def resB (a : Acc) : Bool := decide (a.kind = 2) || decide (a.kind = 3)
theorem open_c (b : Book) (hb : BookIn b) : RealCall Tryz.prog 32 [.agg (cBook b)] (.tup [.agg (cBook b), .int .i64 (bookS b).2]) false := by
  have c1 := checkBook_c b hb
  unfold pairI at c1
  generalize bookS b = q at *
  unfold cBook at *
  refine realcall_intro Tryz.func32 (by kernel_rfl) rfl (Nat.le_of_ble_eq_true (by kernel_rfl)) ?_
  simp only [Tryz.results32, Tryz.ntmps32]
  repeat' (first | (with_reducible first | refine awp_seq ?_ | refine awp_blockS ?_ | refine awp_blockC ?_ | refine awp_blockR ?_ | refine awp_skip ?_ | refine awp_ret ?_ | refine awp_exit ?_ | refine awp_region ?_ | refine awp_condM ?_ | refine And.intro ?_ ?_ | apply gQ_merge | apply gE_merge | exact EqV_w | exact EqE_w | exact EqV_ptr | exact EqE_ptr | exact EqV_msl | exact EqE_msl | exact EqV_agg | exact EqE_agg | exact EqV_fn | exact EqE_fn | exact EqV_gd | exact EqE_gd | refine gM_splitN ?_ ?_ | refine gM_split ?_ ?_ |  refine condM_splitDN ?_ ?_ | refine condM_splitD ?_ ?_ | refine condM_splitN ?_ ?_ | refine condM_split ?_ ?_ | refine condM_any ?_ ?_ | refine cw (c1) ?_ | intro _) | (simp [*]) | (refine cw_eq (c1) ?_ ?_; (· (simp [*]; done))))
theorem accountErr_c (b : Book) (hl : b.accs.length < 100000) (n : ByteArray) : RealCall Tryz.prog 39 [.agg (cBook b), .str n] (.int .i64 (errUnless (hasS b.accs n) 6)) true := by
  have c1 := has_c b.accs hl n
  unfold cBook
  refine realcall_intro Tryz.func39 (by kernel_rfl) rfl (Nat.le_of_ble_eq_true (by kernel_rfl)) ?_
  simp only [Tryz.results39, Tryz.ntmps39]
  repeat' (first | (with_reducible first | refine awp_seq ?_ | refine awp_blockS ?_ | refine awp_blockC ?_ | refine awp_blockR ?_ | refine awp_skip ?_ | refine awp_ret ?_ | refine awp_exit ?_ | refine awp_region ?_ | refine awp_condM ?_ | refine And.intro ?_ ?_ | apply gQ_merge | apply gE_merge | exact EqV_w | exact EqE_w | exact EqV_ptr | exact EqE_ptr | exact EqV_msl | exact EqE_msl | exact EqV_agg | exact EqE_agg | exact EqV_fn | exact EqE_fn | exact EqV_gd | exact EqE_gd | refine gM_splitN ?_ ?_ | refine gM_split ?_ ?_ |  refine condM_splitDN ?_ ?_ | refine condM_splitD ?_ ?_ | refine condM_splitN ?_ ?_ | refine condM_split ?_ ?_ | refine condM_any ?_ ?_ | refine cw (c1) ?_ | refine cw (unless_c _ _) ?_ | intro _) | (simp [*]) | (refine cw_eq (c1) ?_ ?_; (· (simp [*]; done))) | (refine cw_eq (unless_c _ _) ?_ ?_; (· (simp [*]; done))))
def clK (f : ByteArray → Int) (l : List Acc) : Nat → List Line
  | 0 => []
  | k + 1 => if (resB (nth l k) && !decide (f (nth l k).name = 0)) = true then clK f l k ++ [⟨(nth l k).name, -(f (nth l k).name)⟩] else clK f l k
def nK (f : ByteArray → Int) (l : List Acc) : Nat → Int
  | 0 => 0
  | k + 1 => if (resB (nth l k) && !decide (f (nth l k).name = 0)) = true then nK f l k + f (nth l k).name else nK f l k
@[simp] theorem clK_zero (f : ByteArray → Int) (l : List Acc) : clK f l 0 = [] := rfl
@[simp] theorem nK_zero (f : ByteArray → Int) (l : List Acc) : nK f l 0 = 0 := rfl
end Go.Proofs.YtlcimflkjfbaoaaGreat
namespace Go.Proofs.YtlcimflkjfbaoaaGreat
open Go Go.Fi
set_option maxRecDepth 20000
attribute [-simp] cEntries_drop2

/-! ### the closing entry -/
end Go.Proofs.YtlcimflkjfbaoaaGreat

