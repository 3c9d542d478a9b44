/- Contracts of functions for this claim: lemmas alone. -/
import Derived.Test.YtdgbfbgnbgfmjaaP93
import Derived.Test.YtdgbfbgnbgfmjaaP86
import Derived.Test.YtdgbfbgnbgfmjaaP67
import Derived.Test.YtdgbfbgnbgfmjaaP38
import Derived.Test.YtdgbfbgnbgfmjaaP32
set_option linter.unusedSimpArgs false
set_option linter.unusedVariables false
namespace Go.Proofs.Ytdgbfbgnbgfmjaa
open Go Go.Fi
set_option maxRecDepth 20000

/-! ### trips -/
def cTrips (l : List Trip) : List PV := l.flatMap cTrip
@[simp] theorem cTrips_len (l : List Trip) : (cTrips l).length = l.length * 5 := flatMap_len cTrip 5 (fun _ => rfl) l
@[simp] theorem cTrips_drop (l : List Trip) (k : Nat) (h : k < l.length) : ((cTrips l).drop (k * 5)).take 5 = cTrip (nth l k) := flatMap_drop cTrip 5 (fun _ => rfl) l k h
@[simp] theorem cTrips_1 (l : List Trip) (k : Nat) (h : k < l.length) : nthP (cTrips l) (k * 5 + 1) = .str (nth l k).note := flatMap_get cTrip 5 (fun _ => rfl) l k 1 h (by omega)
@[simp] theorem cTrips_2 (l : List Trip) (k : Nat) (h : k < l.length) : nthP (cTrips l) (k * 5 + 2) = .int .i64 (nth l k).fare := flatMap_get cTrip 5 (fun _ => rfl) l k 2 h (by omega)
@[simp] theorem cTrips_3 (l : List Trip) (k : Nat) (h : k < l.length) : nthP (cTrips l) (k * 5 + 3) = .int .i64 (nth l k).tip := flatMap_get cTrip 5 (fun _ => rfl) l k 3 h (by omega)
@[simp] theorem cTrips_4 (l : List Trip) (k : Nat) (h : k < l.length) : nthP (cTrips l) (k * 5 + 4) = .int .i64 (nth l k).voucher := flatMap_get cTrip 5 (fun _ => rfl) l k 4 h (by omega)
def tripB (t : Trip) : Bool := !(decide (20 < (t.note.size : Int)) || !winB t.fare 0 1000000 || !winB t.tip 0 1000000 || !winB t.voucher 0 1000000)
def tripsB (l : List Trip) : Bool := !(decide (10 < (l.length : Int))) && allD tripB l 0
theorem tripB_yes {t : Trip} (h : tripB t = true) : ¬ 20 < (t.note.size : Int) ∧ winB t.fare 0 1000000 = true ∧ winB t.tip 0 1000000 = true ∧ winB t.voucher 0 1000000 = true := by
  unfold tripB at h
  simp at h
  refine ⟨by omega, h.1.1.2, h.1.2, h.2⟩
theorem tripB_cases (t : Trip) : (tripB t = false ∧ (20 < (t.note.size : Int) ∨ ¬ 20 < (t.note.size : Int) ∧ winB t.fare 0 1000000 = false ∨ ¬ 20 < (t.note.size : Int) ∧ winB t.fare 0 1000000 = true ∧ winB t.tip 0 1000000 = false ∨ ¬ 20 < (t.note.size : Int) ∧ winB t.fare 0 1000000 = true ∧ winB t.tip 0 1000000 = true ∧ winB t.voucher 0 1000000 = false)) ∨ (tripB t = true ∧ ¬ 20 < (t.note.size : Int) ∧ winB t.fare 0 1000000 = true ∧ winB t.tip 0 1000000 = true ∧ winB t.voucher 0 1000000 = true) := by
  unfold tripB
  by_cases h : 20 < (t.note.size : Int)
  · left; rw [decide_eq_true h]; exact ⟨rfl, .inl h⟩
  · rw [decide_eq_false h]
    cases h1 : winB t.fare 0 1000000 with
    | false => left; exact ⟨rfl, .inr (.inl ⟨h, rfl⟩)⟩
    | true =>
      cases h2 : winB t.tip 0 1000000 with
      | false => left; exact ⟨rfl, .inr (.inr (.inl ⟨h, rfl, rfl⟩))⟩
      | true =>
        cases h3 : winB t.voucher 0 1000000 with
        | false => left; exact ⟨rfl, .inr (.inr (.inr ⟨h, rfl, rfl, rfl⟩))⟩
        | true => right; exact ⟨rfl, h, rfl, rfl, rfl⟩
set_option maxHeartbeats 4000000 in
theorem trips_c (m : List Trip) : RealCall Try.prog 5 [.sl m.length (cTrips m)] (.bool (tripsB m)) true := by
  unfold tripsB
  generalize hA' : allD tripB m 0 = A
  have kA := keep hA'
  clear hA'
  by_cases h : 10 < (m.length : Int)
  · rw [decide_eq_true h]
    change RealCall _ _ _ (.bool false) true
    refine realcall_intro Try.func5 (by kernel_rfl) rfl (Nat.le_of_ble_eq_true (by kernel_rfl)) ?_
    simp only [Try.results5, Try.ntmps5]
    repeat' (first | (with_reducible first | refine awp_seq ?_ | refine awp_blockS ?_ | refine awp_blockC ?_ | refine awp_blockR ?_ | refine awp_skip ?_ | refine awp_ret ?_ | refine awp_exit ?_ | refine awp_region ?_ | refine awp_condM ?_ | refine And.intro ?_ ?_ | apply gQ_merge | apply gE_merge | exact EqV_w | exact EqE_w | exact EqV_ptr | exact EqE_ptr | exact EqV_msl | exact EqE_msl | exact EqV_agg | exact EqE_agg | exact EqV_fn | exact EqE_fn | exact EqV_gd | exact EqE_gd | refine gM_splitN ?_ ?_ | refine gM_split ?_ ?_ |  refine condM_splitDN ?_ ?_ | refine condM_splitD ?_ ?_ | refine condM_splitN ?_ ?_ | refine condM_split ?_ ?_ | refine condM_any ?_ ?_ | intro _) | (simp [*, h]))
  · rw [decide_eq_false h]
    change RealCall _ _ _ (.bool A) true
    have hml : m.length < 1000 := by omega
    refine realcall_intro Try.func5 (by kernel_rfl) rfl (Nat.le_of_ble_eq_true (by kernel_rfl)) ?_
    simp only [Try.results5, Try.ntmps5]
    repeat' (first | (with_reducible first | refine awp_seq ?_ | refine awp_blockS ?_ | refine awp_blockC ?_ | refine awp_blockR ?_ | refine awp_skip ?_ | refine awp_ret ?_ | refine awp_exit ?_ | refine awp_region ?_ | refine awp_condM ?_ | refine And.intro ?_ ?_ | apply gQ_merge | apply gE_merge | exact EqV_w | exact EqE_w | exact EqV_ptr | exact EqE_ptr | exact EqV_msl | exact EqE_msl | exact EqV_agg | exact EqE_agg | exact EqV_fn | exact EqE_fn | exact EqV_gd | exact EqE_gd | refine gM_splitN ?_ ?_ | refine gM_split ?_ ?_ |  refine condM_splitDN ?_ ?_ | refine condM_splitD ?_ ?_ | refine condM_splitN ?_ ?_ | refine condM_split ?_ ?_ | refine condM_any ?_ ?_ | intro _) | (simp [*, h]))
    refine awp_for3 (fun (k : Nat) => k ≤ m.length ∧ allD tripB m k = A) [0] (fun (k : Nat) => [(3, .w false false (.int .i64 k))]) [] (fun (k : Nat) => []) (fun (k : Nat) => m.length - k) (fun (_u : Unit) => A = true) [] (fun (_u : Unit) => []) [] (fun (_u : Unit) => []) (0) ⟨Nat.zero_le _, kA⟩ (by simp) (by simp) (fun k hk => ?_) (fun _u hf => ?_)
    · obtain ⟨hk, hj⟩ := hk
      by_cases hlt : k < m.length
      · rw [allD_step hlt] at hj
        have w1 := rWithin_c (nth m k).fare 0 1000000
        have w2 := rWithin_c (nth m k).tip 0 1000000
        have w3 := rWithin_c (nth m k).voucher 0 1000000
        rcases tripB_cases (nth m k) with ⟨hb, hr | ⟨hr, e1⟩ | ⟨hr, e1, e2⟩ | ⟨hr, e1, e2, e3⟩⟩ | ⟨hb, hr, e1, e2, e3⟩
        · rw [hb] at hj
          have hA : A = false := hj.symm
          clear hj kA hb
          subst hA
          repeat' (first | (with_reducible first | refine awp_seq ?_ | refine awp_blockS ?_ | refine awp_blockC ?_ | refine awp_blockR ?_ | refine awp_skip ?_ | refine awp_ret ?_ | refine awp_exit ?_ | refine awp_region ?_ | refine awp_condM ?_ | refine And.intro ?_ ?_ | apply gQ_merge | apply gE_merge | exact EqV_w | exact EqE_w | exact EqV_ptr | exact EqE_ptr | exact EqV_msl | exact EqE_msl | exact EqV_agg | exact EqE_agg | exact EqV_fn | exact EqE_fn | exact EqV_gd | exact EqE_gd | refine gM_splitN ?_ ?_ | refine gM_split ?_ ?_ |  refine condM_splitDN ?_ ?_ | refine condM_splitD ?_ ?_ | refine condM_splitN ?_ ?_ | refine condM_split ?_ ?_ | refine condM_any ?_ ?_ | intro _) | (simp [*, hlt, hr]))
          all_goals try first | exact inI64 (by omega) (by omega) | omega
        · rw [hb] at hj
          have hA : A = false := hj.symm
          clear hj kA hb w2 w3
          rw [e1] at w1
          subst hA
          repeat' (first | (with_reducible first | refine awp_seq ?_ | refine awp_blockS ?_ | refine awp_blockC ?_ | refine awp_blockR ?_ | refine awp_skip ?_ | refine awp_ret ?_ | refine awp_exit ?_ | refine awp_region ?_ | refine awp_condM ?_ | refine And.intro ?_ ?_ | apply gQ_merge | apply gE_merge | exact EqV_w | exact EqE_w | exact EqV_ptr | exact EqE_ptr | exact EqV_msl | exact EqE_msl | exact EqV_agg | exact EqE_agg | exact EqV_fn | exact EqE_fn | exact EqV_gd | exact EqE_gd | refine gM_splitN ?_ ?_ | refine gM_split ?_ ?_ |  refine condM_splitDN ?_ ?_ | refine condM_splitD ?_ ?_ | refine condM_splitN ?_ ?_ | refine condM_split ?_ ?_ | refine condM_any ?_ ?_ | refine cw (w1) ?_ | intro _) | (simp [*, hlt, hr]) | (refine cw_eq (w1) ?_ ?_; (· (simp [*]; done))))
          all_goals try first | exact inI64 (by omega) (by omega) | omega
        · rw [hb] at hj
          have hA : A = false := hj.symm
          clear hj kA hb w3
          rw [e1] at w1
          rw [e2] at w2
          subst hA
          repeat' (first | (with_reducible first | refine awp_seq ?_ | refine awp_blockS ?_ | refine awp_blockC ?_ | refine awp_blockR ?_ | refine awp_skip ?_ | refine awp_ret ?_ | refine awp_exit ?_ | refine awp_region ?_ | refine awp_condM ?_ | refine And.intro ?_ ?_ | apply gQ_merge | apply gE_merge | exact EqV_w | exact EqE_w | exact EqV_ptr | exact EqE_ptr | exact EqV_msl | exact EqE_msl | exact EqV_agg | exact EqE_agg | exact EqV_fn | exact EqE_fn | exact EqV_gd | exact EqE_gd | refine gM_splitN ?_ ?_ | refine gM_split ?_ ?_ |  refine condM_splitDN ?_ ?_ | refine condM_splitD ?_ ?_ | refine condM_splitN ?_ ?_ | refine condM_split ?_ ?_ | refine condM_any ?_ ?_ | refine cw (w1) ?_ | refine cw (w2) ?_ | intro _) | (simp [*, hlt, hr]) | (refine cw_eq (w1) ?_ ?_; (· (simp [*]; done))) | (refine cw_eq (w2) ?_ ?_; (· (simp [*]; done))))
          all_goals try first | exact inI64 (by omega) (by omega) | omega
        · rw [hb] at hj
          have hA : A = false := hj.symm
          clear hj kA hb
          rw [e1] at w1
          rw [e2] at w2
          rw [e3] at w3
          subst hA
          repeat' (first | (with_reducible first | refine awp_seq ?_ | refine awp_blockS ?_ | refine awp_blockC ?_ | refine awp_blockR ?_ | refine awp_skip ?_ | refine awp_ret ?_ | refine awp_exit ?_ | refine awp_region ?_ | refine awp_condM ?_ | refine And.intro ?_ ?_ | apply gQ_merge | apply gE_merge | exact EqV_w | exact EqE_w | exact EqV_ptr | exact EqE_ptr | exact EqV_msl | exact EqE_msl | exact EqV_agg | exact EqE_agg | exact EqV_fn | exact EqE_fn | exact EqV_gd | exact EqE_gd | refine gM_splitN ?_ ?_ | refine gM_split ?_ ?_ |  refine condM_splitDN ?_ ?_ | refine condM_splitD ?_ ?_ | refine condM_splitN ?_ ?_ | refine condM_split ?_ ?_ | refine condM_any ?_ ?_ | refine cw (w1) ?_ | refine cw (w2) ?_ | refine cw (w3) ?_ | intro _) | (simp [*, hlt, hr]) | (refine cw_eq (w1) ?_ ?_; (· (simp [*]; done))) | (refine cw_eq (w2) ?_ ?_; (· (simp [*]; done))) | (refine cw_eq (w3) ?_ ?_; (· (simp [*]; done))))
          all_goals try first | exact inI64 (by omega) (by omega) | omega
        · rw [hb, Bool.true_and] at hj
          have kj := keep hj
          clear hj kA hb
          rw [e1] at w1
          rw [e2] at w2
          rw [e3] at w3
          repeat' (first | (with_reducible first | refine awp_seq ?_ | refine awp_blockS ?_ | refine awp_blockC ?_ | refine awp_blockR ?_ | refine awp_skip ?_ | refine awp_ret ?_ | refine awp_exit ?_ | refine awp_region ?_ | refine awp_condM ?_ | refine And.intro ?_ ?_ | apply gQ_merge | apply gE_merge | exact EqV_w | exact EqE_w | exact EqV_ptr | exact EqE_ptr | exact EqV_msl | exact EqE_msl | exact EqV_agg | exact EqE_agg | exact EqV_fn | exact EqE_fn | exact EqV_gd | exact EqE_gd | refine gM_splitN ?_ ?_ | refine gM_split ?_ ?_ |  refine condM_splitDN ?_ ?_ | refine condM_splitD ?_ ?_ | refine condM_splitN ?_ ?_ | refine condM_split ?_ ?_ | refine condM_any ?_ ?_ | refine cw (w1) ?_ | refine cw (w2) ?_ | refine cw (w3) ?_ | intro _) | (simp [*, hlt, hr]) | (refine cw_eq (w1) ?_ ?_; (· (simp [*]; done))) | (refine cw_eq (w2) ?_ ?_; (· (simp [*]; done))) | (refine cw_eq (w3) ?_ ?_; (· (simp [*]; done))))
          all_goals first
            | exact inI64 (by omega) (by omega)
            | omega
            | (refine loopK_normal _ _ _ _ _ (k + 1) _ ?_ (by first | omega | (dsimp only; omega) | (simp; omega)) ?_; (· exact ⟨by omega, kj⟩); (refine le_of ?_ ?_ <;> first | trivial | (simp [*]; done)))
            | skip
      · have hke : k = m.length := by omega
        subst hke
        rw [allD_end] at hj
        have kj := keep hj.symm
        clear hj kA
        repeat' (first | (with_reducible first | refine awp_seq ?_ | refine awp_blockS ?_ | refine awp_blockC ?_ | refine awp_blockR ?_ | refine awp_skip ?_ | refine awp_ret ?_ | refine awp_exit ?_ | refine awp_region ?_ | refine awp_condM ?_ | refine And.intro ?_ ?_ | apply gQ_merge | apply gE_merge | exact EqV_w | exact EqE_w | exact EqV_ptr | exact EqE_ptr | exact EqV_msl | exact EqE_msl | exact EqV_agg | exact EqE_agg | exact EqV_fn | exact EqE_fn | exact EqV_gd | exact EqE_gd | refine gM_splitN ?_ ?_ | refine gM_split ?_ ?_ |  refine condM_splitDN ?_ ?_ | refine condM_splitD ?_ ?_ | refine condM_splitN ?_ ?_ | refine condM_split ?_ ?_ | refine condM_any ?_ ?_ | intro _) | (simp [*]))
        all_goals (refine finW_intro () ?_ ?_; (· exact kj); (refine le_of ?_ ?_ <;> first | trivial | (simp [*]; done)))
    · subst hf
      clear kA
      repeat' (first | (with_reducible first | refine awp_seq ?_ | refine awp_blockS ?_ | refine awp_blockC ?_ | refine awp_blockR ?_ | refine awp_skip ?_ | refine awp_ret ?_ | refine awp_exit ?_ | refine awp_region ?_ | refine awp_condM ?_ | refine And.intro ?_ ?_ | apply gQ_merge | apply gE_merge | exact EqV_w | exact EqE_w | exact EqV_ptr | exact EqE_ptr | exact EqV_msl | exact EqE_msl | exact EqV_agg | exact EqE_agg | exact EqV_fn | exact EqE_fn | exact EqV_gd | exact EqE_gd | refine gM_splitN ?_ ?_ | refine gM_split ?_ ?_ |  refine condM_splitDN ?_ ?_ | refine condM_splitD ?_ ?_ | refine condM_splitN ?_ ?_ | refine condM_split ?_ ?_ | refine condM_any ?_ ?_ | intro _) | (simp [*]))
theorem accounted_c : RealCall Try.prog 4 [] (.bool true) true := by
  have c1 := splitF_ex
  have c2 := names_c
  have c3 := rule_c
  have c4 := trip_c
  have c5 := fare_ex
  have c6 := ints_ex
  have hl : exEntry.lines.length = 6 := rfl
  unfold cEntry at c5
  rw [hl] at c5
  generalize cAccs exAccs = A at *
  generalize cRule exRule = B at *
  generalize cTrip exTrip = C at *
  generalize exEntry.date = x1 at *
  generalize exEntry.note = x2 at *
  have h6 : (cLines exEntry.lines).length = 12 := rfl
  generalize cLines exEntry.lines = L at *
  refine realcall_intro Try.func4 (by kernel_rfl) rfl (Nat.le_of_ble_eq_true (by kernel_rfl)) ?_
  simp only [Try.results4, Try.ntmps4]
  repeat' (first | (with_reducible first | refine awp_seq ?_ | refine awp_blockS ?_ | refine awp_blockC ?_ | refine awp_blockR ?_ | refine awp_skip ?_ | refine awp_ret ?_ | refine awp_exit ?_ | refine awp_region ?_ | refine awp_condM ?_ | refine And.intro ?_ ?_ | apply gQ_merge | apply gE_merge | exact EqV_w | exact EqE_w | exact EqV_ptr | exact EqE_ptr | exact EqV_msl | exact EqE_msl | exact EqV_agg | exact EqE_agg | exact EqV_fn | exact EqE_fn | exact EqV_gd | exact EqE_gd | refine gM_splitN ?_ ?_ | refine gM_split ?_ ?_ |  refine condM_splitDN ?_ ?_ | refine condM_splitD ?_ ?_ | refine condM_splitN ?_ ?_ | refine condM_split ?_ ?_ | refine condM_any ?_ ?_ | refine cw (c1) ?_ | refine cw (c2) ?_ | refine cw (c3) ?_ | refine cw (c4) ?_ | refine cw (c5) ?_ | refine cw (c6) ?_ | intro _) | (simp [*]) | (refine cw_eq (c1) ?_ ?_; (· (simp [*]; done))) | (refine cw_eq (c2) ?_ ?_; (· (simp [*]; done))) | (refine cw_eq (c3) ?_ ?_; (· (simp [*]; done))) | (refine cw_eq (c4) ?_ ?_; (· (simp [*]; done))) | (refine cw_eq (c5) ?_ ?_; (· (simp [*]; done))) | (refine cw_eq (c6) ?_ ?_; (· (simp [*]; done))))
end Go.Proofs.Ytdgbfbgnbgfmjaa
namespace Go.Proofs.Ytdgbfbgnbgfmjaa
open Go Go.Fi
set_option maxRecDepth 20000

/-! ### the books of a day, and what they come to -/
theorem fr_weak {f : Nat} {args : List PV} {res : PV} (h : RealCall Try.prog f args res true) : RealCall Try.prog f args res false :=
  ⟨h.1, fun G w vs hl ho hr => (h.2 G w vs hl ho hr).mono fun e w' ⟨v, h1, h2, h3⟩ => ⟨v, h1, h2, h3.imp fun b hb => ⟨hb.1, fun hf => by cases hf⟩⟩⟩
theorem rule_zero : ruleS exAccs exRule = 0 := by
  rw [ruleS_ok ruleOk_ex.accs ruleOk_ex.has ruleOk_ex.apart]
  decide +kernel
theorem ruleOk_x : RuleOk exAccs exRule := (ruleS_zero rule_zero).1
theorem shares_x : SharesOk exRule := sharesOk (ruleS_zero rule_zero).2
def fX (t : Trip) : Entry × Int := fareR exRule t
theorem fX_bad {t : Trip} (h : ¬ fareChk 0 t = 0) : fX t = (noEntry, fareChk 0 t) := by
  unfold fX fareR
  rw [if_neg h]
theorem fareAny_c (t : Trip) (hn : t.note.size < 1000000) : RealCall Try.prog 7 [.sl 5 (cAccs exAccs), .agg (cRule exRule), .agg (cTrip t)] (.tup [.agg (cEntry (fX t).1), .int .i64 (fX t).2]) false := by
  by_cases h : fareChk 0 t = 0
  · exact fareEntry_ok exAccs accsIn_ex exRule t hn rule_zero h
  · rw [fX_bad h]
    have c := fareEntry_bad exAccs accsIn_ex exRule t hn (by rw [rule_zero]; exact h)
    rw [rule_zero] at c
    exact fr_weak c
theorem fX_entry {t : Trip} (h : (fX t).2 = 0) : (entryS exAccs (fX t).1).2 = 0 ∧ (fX t).1 = ⟨t.date, t.note, fareLn exRule t⟩ ∧ sumW (fun a => decide (a = exRule.owner) || decide (a = exRule.driver) || decide (a = exRule.office)) (fareLn exRule t) = -(t.fare + t.tip) :=
  fareR_right ruleOk_x shares_x h
theorem fX_in {t : Trip} (hn : t.note.size < 1000000) (h : (fX t).2 = 0) : EntryIn (fX t).1 := by
  obtain ⟨h1, h2, _⟩ := fX_entry h
  have := (headE_zero (entryS_zero h1).1).2.2.2.2
  refine ⟨?_, by omega⟩
  rw [h2]
  exact hn
def bookK (l : List Trip) : Nat → Book
  | 0 => ⟨exAccs, [], 0⟩
  | k + 1 => if (fX (nth l k)).2 = 0 then postS (bookK l k) (fX (nth l k)).1 else bookK l k
theorem bookK_yes (l : List Trip) (k : Nat) (h : (fX (nth l k)).2 = 0) : bookK l (k + 1) = postS (bookK l k) (fX (nth l k)).1 := if_pos h
theorem bookK_no (l : List Trip) (k : Nat) (h : ¬ (fX (nth l k)).2 = 0) : bookK l (k + 1) = bookK l k := if_neg h
theorem bookK_0 : (bookS (⟨exAccs, [], 0⟩ : Book)).2 = 0 := by decide +kernel
structure BookX (b : Book) (k : Nat) : Prop where
  accs : b.accs = exAccs
  closed : b.closed = 0
  len : b.entries.length ≤ k
  right : (bookS b).2 = 0
  bin : BookIn b
theorem bookX (l : List Trip) (hn : ∀ k, k < l.length → (nth l k).note.size < 1000000) : ∀ k, k ≤ l.length → k ≤ 10 → BookX (bookK l k) k
  | 0, _, _ => ⟨rfl, rfl, Nat.le_refl _, bookK_0, accsIn_ex, (by decide : 0 < 10000), fun k hk => absurd hk (Nat.not_lt_zero _)⟩
  | k + 1, hk, h10 => by
    have ih := bookX l hn k (by omega) (by omega)
    by_cases h : (fX (nth l k)).2 = 0
    · rw [bookK_yes l k h]
      obtain ⟨h1, h2, _⟩ := fX_entry h
      have hlen := ih.len
      refine ⟨ih.accs, ih.closed, ?_, post_right ih.right (by rw [ih.accs]; exact h1) (by omega), postS_in ih.bin (fX_in (hn k (by omega)) h) (by omega)⟩
      unfold postS
      dsimp only
      rw [insAt_one _ _ _ (postAt_le _ _)]
      omega
    · rw [bookK_no l k h]
      exact ⟨ih.accs, ih.closed, by have := ih.len; omega, ih.right, ih.bin⟩
theorem bookX_post {b : Book} {k : Nat} (hb : BookX b k) (hk : k < 100) {t : Trip} (h : (fX t).2 = 0) : postE b (fX t).1 = 0 := by
  obtain ⟨h1, h2, _⟩ := fX_entry h
  have hd := (headE_zero (entryS_zero h1).1)
  have hq : 0 ≤ (fX t).1.date.tdiv 30 := by rw [Int.tdiv_eq_ediv_of_nonneg hd.1]; omega
  have hl := hb.len
  unfold postE
  rw [hb.accs, h1, hb.closed, decide_eq_true hq, decide_eq_true (by omega)]
  rfl
def sumT (f : Trip → Int) : List Trip → Int
  | [] => 0
  | t :: r => f t + sumT f r
theorem sumT_app (f : Trip → Int) (r : List Trip) : ∀ l : List Trip, sumT f (l ++ r) = sumT f l + sumT f r
  | [] => by simp [sumT]
  | t :: l => by simp only [List.cons_append, sumT]; rw [sumT_app f r l]; omega
theorem sumT_rev (f : Trip → Int) : ∀ l : List Trip, sumT f l.reverse = sumT f l
  | [] => rfl
  | t :: l => by rw [List.reverse_cons, sumT_app, sumT_rev f l]; simp only [sumT]; omega
theorem sumT_succ (f : Trip → Int) (l : List Trip) (k : Nat) (h : k < l.length) : sumT f (l.take (k + 1)) = sumT f (l.take k) + f (nth l k) := by
  rw [take_succ_nth l k h, sumT_app]
  simp [sumT]
def valT (n : ByteArray) (t : Trip) : Int := if (fX t).2 = 0 then putS n (fX t).1.lines else 0
theorem bookK_val (l : List Trip) (n : ByteArray) : ∀ k, k ≤ l.length → balF (bookK l k) n = sumT (valT n) (l.take k)
  | 0, _ => rfl
  | k + 1, hk => by
    have ih := bookK_val l n k (by omega)
    rw [sumT_succ _ _ _ (by omega)]
    unfold valT
    by_cases h : (fX (nth l k)).2 = 0
    · rw [bookK_yes l k h, if_pos h]
      have hd := (headE_zero (entryS_zero (fX_entry h).1).1)
      unfold balF at ih ⊢
      rw [balS_post, if_pos hd.2.1, ih]
      rfl
    · rw [bookK_no l k h, if_neg h, ih]
      unfold valT
      omega
theorem bookK_rev (l : List Trip) : balF (bookK l l.length) = balF (bookK l.reverse l.length) := by
  funext n
  rw [bookK_val l n l.length (Nat.le_refl _), List.take_length]
  have h := bookK_val l.reverse n l.length (by simp)
  rw [h, show l.reverse.take l.length = l.reverse by rw [← List.length_reverse, List.take_length], sumT_rev]
def allT (t : Trip) : Int := if (fX t).2 = 0 then t.fare + t.tip else 0
theorem put3 (a b c : ByteArray) (h1 : a ≠ b) (h2 : a ≠ c) (h3 : b ≠ c) : ∀ L : List Line, putS a L + putS b L + putS c L = sumW (fun x => decide (x = a) || decide (x = b) || decide (x = c)) L
  | [] => rfl
  | y :: r => by
    have ih := put3 a b c h1 h2 h3 r
    simp only [putS, sumW]
    rw [← ih]
    by_cases e1 : y.acc = a
    · rw [if_pos e1, if_neg (fun e => h1 (e1.symm.trans e)), if_neg (fun e => h2 (e1.symm.trans e)), if_pos (by simp [e1])]
      omega
    · by_cases e2 : y.acc = b
      · rw [if_neg e1, if_pos e2, if_neg (fun e => h3 (e2.symm.trans e)), if_pos (by simp [e2])]
        omega
      · by_cases e3 : y.acc = c
        · rw [if_neg e1, if_neg e2, if_pos e3, if_pos (by simp [e3])]
          omega
        · rw [if_neg e1, if_neg e2, if_neg e3, if_neg (by simp [e1, e2, e3])]
          omega
theorem val3 (t : Trip) : valT exRule.owner t + valT exRule.driver t + valT exRule.office t = -(allT t) := by
  unfold valT allT
  by_cases h : (fX t).2 = 0
  · rw [if_pos h, if_pos h, if_pos h, if_pos h]
    obtain ⟨_, h2, h3⟩ := fX_entry h
    rw [h2]
    dsimp only
    rw [put3 exRule.owner exRule.driver exRule.office (by decide) (by decide) (by decide)]
    exact h3
  · rw [if_neg h, if_neg h, if_neg h, if_neg h]; rfl
theorem sum3 : ∀ l : List Trip, sumT (valT exRule.owner) l + sumT (valT exRule.driver) l + sumT (valT exRule.office) l = -(sumT allT l)
  | [] => rfl
  | t :: l => by
    have h1 := sum3 l
    have h2 := val3 t
    simp only [sumT]
    omega
/-- The five balances. -/
theorem five_bal (l : List Trip) (hn : ∀ k, k < l.length → (nth l k).note.size < 1000000) (hl : l.length ≤ 10) : ∃ m0 m1 m2 m3 m4 : Int, balL (balF (bookK l l.length)) exAccs 5 = [m0, m1, m2, m3, m4] ∧ m0 + m1 = sumT allT l ∧ m2 + m3 + m4 = -(sumT allT l) ∧ (∀ i, i < 5 → winB (nth [m0, m1, m2, m3, m4] i) (-1000000000000000) 1000000000000000 = true) := by
  have hx := bookX l hn l.length (Nat.le_refl _) hl
  have hv := fun n => bookK_val l n l.length (Nat.le_refl _)
  rw [List.take_length] at hv
  have hs := sum3 l
  have ht := balanced_all hx.right 100000
  have hb := (bookS_zero hx.right).tight
  rw [hx.accs] at ht
  change totK (balF (bookK l l.length)) exAccs 5 = 0 at ht
  have hsm : ∀ n, -1200000000000 ≤ balF (bookK l l.length) n ∧ balF (bookK l l.length) n ≤ 1200000000000 := fun n => hb.small n 100000
  rw [← hv, ← hv, ← hv] at hs
  generalize balF (bookK l l.length) = f at *
  simp only [totK] at ht
  refine ⟨_, _, _, _, _, rfl, ?_, ?_, ?_⟩
  · change f (nth exAccs 0).name + f (nth exAccs 1).name = _
    have e2 : (nth exAccs 2).name = exRule.driver := rfl
    have e3 : (nth exAccs 3).name = exRule.owner := rfl
    have e4 : (nth exAccs 4).name = exRule.office := rfl
    rw [e2, e3, e4] at ht
    omega
  · change f exRule.driver + f exRule.owner + f exRule.office = _
    omega
  · intro i hi
    have : ∀ n, winB (f n) (-1000000000000000) 1000000000000000 = true := fun n => winB_iff.2 (by have := hsm n; omega)
    match i, hi with
    | 0, _ => exact this _
    | 1, _ => exact this _
    | 2, _ => exact this _
    | 3, _ => exact this _
    | 4, _ => exact this _
theorem sumT_bd (l : List Trip) (h : ∀ k, k < l.length → (0 ≤ (nth l k).fare ∧ (nth l k).fare ≤ 1000000) ∧ 0 ≤ (nth l k).tip ∧ (nth l k).tip ≤ 1000000) : ∀ k : Nat, k ≤ l.length → 0 ≤ sumT allT (l.take k) ∧ sumT allT (l.take k) ≤ 2000000 * (k : Int)
  | 0, _ => by simp [sumT]
  | k + 1, hk => by
    have ih := sumT_bd l h k (by omega)
    have := h k (by omega)
    rw [sumT_succ _ _ _ (by omega)]
    unfold allT at ih ⊢
    split <;> omega
end Go.Proofs.Ytdgbfbgnbgfmjaa
namespace Go.Proofs.Ytdgbfbgnbgfmjaa
open Go Go.Fi
set_option maxRecDepth 20000
attribute [-simp] cEntries_drop2

/-! ### TopAccountBalances -/
theorem nth_rev (l : List Trip) (k : Nat) (h : k < l.length) : nth l.reverse k = nth l (l.length - 1 - k) := by
  simp only [nth, List.getD_eq_getElem?_getD]
  rw [List.getElem?_reverse h]
theorem tripsB_yes {l : List Trip} (h : tripsB l = true) : l.length ≤ 10 ∧ ∀ k, k < l.length → tripB (nth l k) = true := by
  unfold tripsB at h
  rw [Bool.and_eq_true] at h
  refine ⟨by have := h.1; simp at this; omega, fun k hk => ?_⟩
  have := h.2
  unfold allD at this
  rw [List.drop_zero, List.all_eq_true] at this
  exact this _ (by simp only [nth, List.getD_eq_getElem?_getD, List.getElem?_eq_getElem hk, Option.getD_some]; exact List.getElem_mem hk)
set_option maxHeartbeats 8000000 in
theorem top_main (l : List Trip) (ht : tripsB l = true) : RealCall Try.prog 3 [.sl l.length (cTrips l)] (.bool true) true := by
  have c0 := accounted_c
  have c1 := trips_c l
  rw [ht] at c1
  obtain ⟨hl, hb⟩ := tripsB_yes ht
  have c2 := names_c
  have c3 := rule_c
  have hn : ∀ k, k < l.length → (nth l k).note.size < 1000000 := fun k hk => by have := (tripB_yes (hb k hk)).1; omega
  have hf : ∀ k, k < l.length → (0 ≤ (nth l k).fare ∧ (nth l k).fare ≤ 1000000) ∧ 0 ≤ (nth l k).tip ∧ (nth l k).tip ≤ 1000000 := fun k hk => by
    obtain ⟨_, h1, h2, _⟩ := tripB_yes (hb k hk)
    exact ⟨winB_iff.1 h1, winB_iff.1 h2⟩
  have hn2 : ∀ k, k < l.reverse.length → (nth l.reverse k).note.size < 1000000 := fun k hk => by
    rw [List.length_reverse] at hk
    rw [nth_rev l k hk]
    exact hn _ (by omega)
  have kf := keep hf
  have kn := keep hn
  have kx := keep (bookX l hn)
  have ky := keep (bookX l.reverse hn2)
  have ks := keep (sumT_bd l hf)
  clear ht hb hn hf hn2
  have e0 : bookK l 0 = ⟨exAccs, [], 0⟩ := rfl
  have e1 : bookK l.reverse 0 = ⟨exAccs, [], 0⟩ := rfl
  have e2 : exAccs.length = 5 := rfl
  have e3 : sumT allT [] = 0 := rfl
  have e4 : cEntries [] = [] := rfl
  refine realcall_intro Try.func3 (by kernel_rfl) rfl (Nat.le_of_ble_eq_true (by kernel_rfl)) ?_
  simp only [Try.results3, Try.ntmps3]
  repeat' (first | (with_reducible first | refine awp_seq ?_ | refine awp_blockS ?_ | refine awp_blockC ?_ | refine awp_blockR ?_ | refine awp_skip ?_ | refine awp_ret ?_ | refine awp_exit ?_ | refine awp_region ?_ | refine awp_regionS (id := 10) [0, 1, 2, 3, 4, 5, 6, 7, 8, 9, 10] [11, 12] [[], [], [], [], [], [], [], [], [], [.new 0], []] [[.new 0], []] mixed (by decide +kernel) ?_ | refine awp_regionS (id := 11) [0, 1, 2, 3, 4, 5, 6, 7, 8, 9, 10, 11, 12, 13, 14] [15, 16] [[], [], [], [], [], [], [], [], [], [], [], [], [], [.new 0], []] [[.new 0], []] mixed (by decide +kernel) ?_ | refine awp_regionD (id := 13) 13 mixed (by decide +kernel) ?_ | refine awp_regionD (id := 30) 26 mixed (by decide +kernel) ?_ | refine awp_condM ?_ | refine And.intro ?_ ?_ | apply gQ_merge | apply gE_merge | exact EqV_w | exact EqE_w | exact EqV_ptr | exact EqE_ptr | exact EqV_msl | exact EqE_msl | exact EqV_agg | exact EqE_agg | exact EqV_fn | exact EqE_fn | exact EqV_gd | exact EqE_gd | refine gM_splitN ?_ ?_ | refine gM_split ?_ ?_ |  refine condM_splitDN ?_ ?_ | refine condM_splitD ?_ ?_ | refine condM_splitN ?_ ?_ | refine condM_split ?_ ?_ | refine condM_any ?_ ?_ | refine cw (c0) ?_ | refine cw (c1) ?_ | refine cw (c2) ?_ | refine cw (c3) ?_ | intro _) | (simp [*]) | (refine cw_eq (c0) ?_ ?_; (· (simp [*]; done))) | (refine cw_eq (c1) ?_ ?_; (· (simp [*]; done))) | (refine cw_eq (c2) ?_ ?_; (· (simp [*]; done))) | (refine cw_eq (c3) ?_ ?_; (· (simp [*]; done))))
  clear c0 c1
  refine awp_for4 2 (fun (k : Nat) => k ≤ l.length) [0, 4, 5] (fun (k : Nat) => [(6, .w false false (.int .i64 k)), (3, .w false false (.int .i64 (sumT allT (l.take k))))]) [] (fun (k : Nat) => [(0, [.w false false (.sl (bookK l k).accs.length (cAccs (bookK l k).accs)), .w false false (.sl (bookK l k).entries.length (cEntries (bookK l k).entries)), .w false false (.int .i64 (bookK l k).closed)]), (1, [.w false false (.sl (bookK l.reverse k).accs.length (cAccs (bookK l.reverse k).accs)), .w false false (.sl (bookK l.reverse k).entries.length (cEntries (bookK l.reverse k).entries)), .w false false (.int .i64 (bookK l.reverse k).closed)])]) (fun (k : Nat) => l.length - k) (fun (_u : Unit) => True) [4, 5] (fun (_u : Unit) => [(3, .w false false (.int .i64 (sumT allT l)))]) [] (fun (_u : Unit) => [(0, [.w false false (.sl (bookK l l.length).accs.length (cAccs (bookK l l.length).accs)), .w false false (.sl (bookK l l.length).entries.length (cEntries (bookK l l.length).entries)), .w false false (.int .i64 (bookK l l.length).closed)]), (1, [.w false false (.sl (bookK l.reverse l.length).accs.length (cAccs (bookK l.reverse l.length).accs)), .w false false (.sl (bookK l.reverse l.length).entries.length (cEntries (bookK l.reverse l.length).entries)), .w false false (.int .i64 (bookK l.reverse l.length).closed)])]) (0) (Nat.zero_le _) (le_gen [] (by simp [e0, e1, e2, e3, e4]) (by simp [e0, e1, e2, e3, e4])) (fun k hk => ?_) (fun _u hf => ?_)
  · have hx := (show ∀ k, k ≤ l.length → k ≤ 10 → BookX (bookK l k) k from kx) k hk (by omega)
    have hy := (show ∀ k, k ≤ l.reverse.length → k ≤ 10 → BookX (bookK l.reverse k) k from ky) k (by rw [List.length_reverse]; exact hk) (by omega)
    clear e0 e1 e2 e3 e4 kx ky
    by_cases hlt : k < l.length
    · have hidx : (l.length : Int) - 1 - (k : Int) = ((l.length - 1 - k : Nat) : Int) := by omega
      have hltr : l.length - 1 - k < l.length := by omega
      have hnn := (show ∀ k, k < l.length → (nth l k).note.size < 1000000 from kn) k hlt
      have hnr := (show ∀ k, k < l.length → (nth l k).note.size < 1000000 from kn) (l.length - 1 - k) hltr
      have f1 := fareAny_c (nth l k) hnn
      have f2 := fareAny_c (nth l (l.length - 1 - k)) hnr
      have hs := (show ∀ k : Nat, k ≤ l.length → 0 ≤ sumT allT (l.take k) ∧ sumT allT (l.take k) ≤ 2000000 * (k : Int) from ks) k hk
      have hff := (show ∀ k, k < l.length → (0 ≤ (nth l k).fare ∧ (nth l k).fare ≤ 1000000) ∧ 0 ≤ (nth l k).tip ∧ (nth l k).tip ≤ 1000000 from kf) k hlt
      have st := sumT_succ allT l k hlt
      have y1 := bookK_yes l k
      have y2 := bookK_no l k
      have z1 := bookK_yes l.reverse k
      have z2 := bookK_no l.reverse k
      rw [nth_rev l k hlt] at z1 z2
      have p1 := fun h => post_ok (bookK l k) hx.bin (fX (nth l k)).1 (fX_in hnn h) hx.right (bookX_post hx (by omega) h)
      have p2 := fun h => post_ok (bookK l.reverse k) hy.bin (fX (nth l (l.length - 1 - k))).1 (fX_in hnr h) hy.right (bookX_post hy (by omega) h)
      have ka := keep hs
      rw [show allT (nth l k) = if (fX (nth l k)).2 = 0 then (nth l k).fare + (nth l k).tip else 0 from rfl] at st
      clear kf kn ks hx hy hnn hnr hs
      generalize bookK l.reverse k = c at *
      generalize bookK l k = b at *
      generalize sumT allT (l.take k) = S at *
      generalize hE1 : fX (nth l k) = E1 at *
      generalize hE2 : fX (nth l (l.length - 1 - k)) = E2 at *
      clear hE1 hE2
      obtain ⟨⟨d1, n1, l1⟩, r1⟩ := E1
      obtain ⟨⟨d2, n2, l2⟩, r2⟩ := E2
      dsimp only at *
      obtain ⟨ka1, ka2⟩ := (show 0 ≤ S ∧ S ≤ 2000000 * (k : Int) from ka)
      clear ka
      obtain ⟨⟨hf1, hf2⟩, hf3, hf4⟩ := hff
      have kc := keep hidx
      clear hidx
      by_cases g1 : r1 = 0
      · by_cases g2 : r2 = 0
        · obtain ⟨ca, ce, cc⟩ := c
          obtain ⟨ba, be, bc⟩ := b
          have q1 := p1 g1
          have k1 := keep (y1 g1)
          rw [if_pos g1, ← Int.add_assoc] at st
          subst g1
          have q2 := p2 g2
          have k2 := keep (z1 g2)
          subst g2
          have kst := keep st
          clear p1 p2 y1 y2 z1 z2 st
          generalize postS ⟨ba, be, bc⟩ ⟨d1, n1, l1⟩ = b2 at *
          obtain ⟨ba2, be2, bc2⟩ := b2
          generalize postS ⟨ca, ce, cc⟩ ⟨d2, n2, l2⟩ = cq at *
          obtain ⟨ca2, ce2, cc2⟩ := cq
          unfold cBook cEntry at *
          dsimp only at *
          repeat' (first | (with_reducible first | refine awp_seq ?_ | refine awp_blockS ?_ | refine awp_blockC ?_ | refine awp_blockR ?_ | refine awp_skip ?_ | refine awp_ret ?_ | refine awp_exit ?_ | refine awp_region ?_ | refine awp_regionS (id := 10) [0, 1, 2, 3, 4, 5, 6, 7, 8, 9, 10] [11, 12] [[], [], [], [], [], [], [], [], [], [.new 0], []] [[.new 0], []] mixed (by decide +kernel) ?_ | refine awp_regionS (id := 11) [0, 1, 2, 3, 4, 5, 6, 7, 8, 9, 10, 11, 12, 13, 14] [15, 16] [[], [], [], [], [], [], [], [], [], [], [], [], [], [.new 0], []] [[.new 0], []] mixed (by decide +kernel) ?_ | refine awp_regionD (id := 13) 13 mixed (by decide +kernel) ?_ | refine awp_regionD (id := 30) 26 mixed (by decide +kernel) ?_ | refine awp_condM ?_ | refine And.intro ?_ ?_ | apply gQ_merge | apply gE_merge | exact EqV_w | exact EqE_w | exact EqV_ptr | exact EqE_ptr | exact EqV_msl | exact EqE_msl | exact EqV_agg | exact EqE_agg | exact EqV_fn | exact EqE_fn | exact EqV_gd | exact EqE_gd | refine gM_splitN ?_ ?_ | refine gM_split ?_ ?_ |  refine condM_splitDN ?_ ?_ | refine condM_splitD ?_ ?_ | refine condM_splitN ?_ ?_ | refine condM_split ?_ ?_ | refine condM_any ?_ ?_ | refine cw (c2) ?_ | refine cw (c3) ?_ | refine cw (f1) ?_ | refine cw (f2) ?_ | refine cw (q1) ?_ | refine cw (q2) ?_ | intro _) | (simp [*, hlt, hltr, (show (l.length : Int) - 1 - (k : Int) = ((l.length - 1 - k : Nat) : Int) from kc)]) | (refine cw_eq (c2) ?_ ?_; (· (simp [*]; done))) | (refine cw_eq (c3) ?_ ?_; (· (simp [*]; done))) | (refine cw_eq (f1) ?_ ?_; (· (simp [*]; done))) | (refine cw_eq (f2) ?_ ?_; (· (simp [*]; done))) | (refine cw_eq (q1) ?_ ?_; (· (simp [*]; done))) | (refine cw_eq (q2) ?_ ?_; (· (simp [*]; done))))
          all_goals first
            | exact inI64 (by omega) (by omega)
            | omega
            | (refine loopK_normal _ _ _ _ _ (k + 1) _ ?_ (by first | omega | (dsimp only; omega) | (simp; omega)) ?_; (· omega); (refine le_gen [] ?_ ?_ <;> first | trivial | (simp [*, (show bookK l (k + 1) = _ from k1), (show bookK l.reverse (k + 1) = _ from k2), (show sumT allT (l.take (k + 1)) = _ from kst)]; done)))
            | skip
        · obtain ⟨ca, ce, cc⟩ := c
          obtain ⟨ba, be, bc⟩ := b
          have q1 := p1 g1
          have k1 := keep (y1 g1)
          rw [if_pos g1, ← Int.add_assoc] at st
          subst g1
          have k2 := keep (z2 g2)
          have kst := keep st
          clear p1 p2 y1 y2 z1 z2 st
          generalize postS ⟨ba, be, bc⟩ ⟨d1, n1, l1⟩ = b2 at *
          obtain ⟨ba2, be2, bc2⟩ := b2
          unfold cBook cEntry at *
          dsimp only at *
          repeat' (first | (with_reducible first | refine awp_seq ?_ | refine awp_blockS ?_ | refine awp_blockC ?_ | refine awp_blockR ?_ | refine awp_skip ?_ | refine awp_ret ?_ | refine awp_exit ?_ | refine awp_region ?_ | refine awp_regionS (id := 10) [0, 1, 2, 3, 4, 5, 6, 7, 8, 9, 10] [11, 12] [[], [], [], [], [], [], [], [], [], [.new 0], []] [[.new 0], []] mixed (by decide +kernel) ?_ | refine awp_regionS (id := 11) [0, 1, 2, 3, 4, 5, 6, 7, 8, 9, 10, 11, 12, 13, 14] [15, 16] [[], [], [], [], [], [], [], [], [], [], [], [], [], [.new 0], []] [[.new 0], []] mixed (by decide +kernel) ?_ | refine awp_regionD (id := 13) 13 mixed (by decide +kernel) ?_ | refine awp_regionD (id := 30) 26 mixed (by decide +kernel) ?_ | refine awp_condM ?_ | refine And.intro ?_ ?_ | apply gQ_merge | apply gE_merge | exact EqV_w | exact EqE_w | exact EqV_ptr | exact EqE_ptr | exact EqV_msl | exact EqE_msl | exact EqV_agg | exact EqE_agg | exact EqV_fn | exact EqE_fn | exact EqV_gd | exact EqE_gd | refine gM_splitN ?_ ?_ | refine gM_split ?_ ?_ |  refine condM_splitDN ?_ ?_ | refine condM_splitD ?_ ?_ | refine condM_splitN ?_ ?_ | refine condM_split ?_ ?_ | refine condM_any ?_ ?_ | refine cw (c2) ?_ | refine cw (c3) ?_ | refine cw (f1) ?_ | refine cw (f2) ?_ | refine cw (q1) ?_ | intro _) | (simp [*, hlt, hltr, (show (l.length : Int) - 1 - (k : Int) = ((l.length - 1 - k : Nat) : Int) from kc), g2]) | (refine cw_eq (c2) ?_ ?_; (· (simp [*]; done))) | (refine cw_eq (c3) ?_ ?_; (· (simp [*]; done))) | (refine cw_eq (f1) ?_ ?_; (· (simp [*]; done))) | (refine cw_eq (f2) ?_ ?_; (· (simp [*]; done))) | (refine cw_eq (q1) ?_ ?_; (· (simp [*]; done))))
          all_goals first
            | exact inI64 (by omega) (by omega)
            | omega
            | (refine loopK_normal _ _ _ _ _ (k + 1) _ ?_ (by first | omega | (dsimp only; omega) | (simp; omega)) ?_; (· omega); (refine le_gen [] ?_ ?_ <;> first | trivial | (simp [*, (show bookK l (k + 1) = _ from k1), (show bookK l.reverse (k + 1) = _ from k2), (show sumT allT (l.take (k + 1)) = _ from kst)]; done)))
            | skip
      · by_cases g2 : r2 = 0
        · obtain ⟨ca, ce, cc⟩ := c
          obtain ⟨ba, be, bc⟩ := b
          have k1 := keep (y2 g1)
          rw [if_neg g1] at st
          have q2 := p2 g2
          have k2 := keep (z1 g2)
          subst g2
          have kst := keep st
          clear p1 p2 y1 y2 z1 z2 st
          generalize postS ⟨ca, ce, cc⟩ ⟨d2, n2, l2⟩ = cq at *
          obtain ⟨ca2, ce2, cc2⟩ := cq
          unfold cBook cEntry at *
          dsimp only at *
          repeat' (first | (with_reducible first | refine awp_seq ?_ | refine awp_blockS ?_ | refine awp_blockC ?_ | refine awp_blockR ?_ | refine awp_skip ?_ | refine awp_ret ?_ | refine awp_exit ?_ | refine awp_region ?_ | refine awp_regionS (id := 10) [0, 1, 2, 3, 4, 5, 6, 7, 8, 9, 10] [11, 12] [[], [], [], [], [], [], [], [], [], [.new 0], []] [[.new 0], []] mixed (by decide +kernel) ?_ | refine awp_regionS (id := 11) [0, 1, 2, 3, 4, 5, 6, 7, 8, 9, 10, 11, 12, 13, 14] [15, 16] [[], [], [], [], [], [], [], [], [], [], [], [], [], [.new 0], []] [[.new 0], []] mixed (by decide +kernel) ?_ | refine awp_regionD (id := 13) 13 mixed (by decide +kernel) ?_ | refine awp_regionD (id := 30) 26 mixed (by decide +kernel) ?_ | refine awp_condM ?_ | refine And.intro ?_ ?_ | apply gQ_merge | apply gE_merge | exact EqV_w | exact EqE_w | exact EqV_ptr | exact EqE_ptr | exact EqV_msl | exact EqE_msl | exact EqV_agg | exact EqE_agg | exact EqV_fn | exact EqE_fn | exact EqV_gd | exact EqE_gd | refine gM_splitN ?_ ?_ | refine gM_split ?_ ?_ |  refine condM_splitDN ?_ ?_ | refine condM_splitD ?_ ?_ | refine condM_splitN ?_ ?_ | refine condM_split ?_ ?_ | refine condM_any ?_ ?_ | refine cw (c2) ?_ | refine cw (c3) ?_ | refine cw (f1) ?_ | refine cw (f2) ?_ | refine cw (q2) ?_ | intro _) | (simp [*, hlt, hltr, (show (l.length : Int) - 1 - (k : Int) = ((l.length - 1 - k : Nat) : Int) from kc), g1]) | (refine cw_eq (c2) ?_ ?_; (· (simp [*]; done))) | (refine cw_eq (c3) ?_ ?_; (· (simp [*]; done))) | (refine cw_eq (f1) ?_ ?_; (· (simp [*]; done))) | (refine cw_eq (f2) ?_ ?_; (· (simp [*]; done))) | (refine cw_eq (q2) ?_ ?_; (· (simp [*]; done))))
          all_goals first
            | exact inI64 (by omega) (by omega)
            | omega
            | (refine loopK_normal _ _ _ _ _ (k + 1) _ ?_ (by first | omega | (dsimp only; omega) | (simp; omega)) ?_; (· omega); (refine le_gen [] ?_ ?_ <;> first | trivial | (simp [*, (show bookK l (k + 1) = _ from k1), (show bookK l.reverse (k + 1) = _ from k2), (show sumT allT (l.take (k + 1)) = _ from kst)]; done)))
            | skip
        · obtain ⟨ca, ce, cc⟩ := c
          obtain ⟨ba, be, bc⟩ := b
          have k1 := keep (y2 g1)
          rw [if_neg g1] at st
          have k2 := keep (z2 g2)
          have kst := keep st
          clear p1 p2 y1 y2 z1 z2 st
          unfold cBook cEntry at *
          dsimp only at *
          repeat' (first | (with_reducible first | refine awp_seq ?_ | refine awp_blockS ?_ | refine awp_blockC ?_ | refine awp_blockR ?_ | refine awp_skip ?_ | refine awp_ret ?_ | refine awp_exit ?_ | refine awp_region ?_ | refine awp_regionS (id := 10) [0, 1, 2, 3, 4, 5, 6, 7, 8, 9, 10] [11, 12] [[], [], [], [], [], [], [], [], [], [.new 0], []] [[.new 0], []] mixed (by decide +kernel) ?_ | refine awp_regionS (id := 11) [0, 1, 2, 3, 4, 5, 6, 7, 8, 9, 10, 11, 12, 13, 14] [15, 16] [[], [], [], [], [], [], [], [], [], [], [], [], [], [.new 0], []] [[.new 0], []] mixed (by decide +kernel) ?_ | refine awp_regionD (id := 13) 13 mixed (by decide +kernel) ?_ | refine awp_regionD (id := 30) 26 mixed (by decide +kernel) ?_ | refine awp_condM ?_ | refine And.intro ?_ ?_ | apply gQ_merge | apply gE_merge | exact EqV_w | exact EqE_w | exact EqV_ptr | exact EqE_ptr | exact EqV_msl | exact EqE_msl | exact EqV_agg | exact EqE_agg | exact EqV_fn | exact EqE_fn | exact EqV_gd | exact EqE_gd | refine gM_splitN ?_ ?_ | refine gM_split ?_ ?_ |  refine condM_splitDN ?_ ?_ | refine condM_splitD ?_ ?_ | refine condM_splitN ?_ ?_ | refine condM_split ?_ ?_ | refine condM_any ?_ ?_ | refine cw (c2) ?_ | refine cw (c3) ?_ | refine cw (f1) ?_ | refine cw (f2) ?_ | intro _) | (simp [*, hlt, hltr, (show (l.length : Int) - 1 - (k : Int) = ((l.length - 1 - k : Nat) : Int) from kc), g1, g2]) | (refine cw_eq (c2) ?_ ?_; (· (simp [*]; done))) | (refine cw_eq (c3) ?_ ?_; (· (simp [*]; done))) | (refine cw_eq (f1) ?_ ?_; (· (simp [*]; done))) | (refine cw_eq (f2) ?_ ?_; (· (simp [*]; done))))
          all_goals first
            | exact inI64 (by omega) (by omega)
            | omega
            | (refine loopK_normal _ _ _ _ _ (k + 1) _ ?_ (by first | omega | (dsimp only; omega) | (simp; omega)) ?_; (· omega); (refine le_gen [] ?_ ?_ <;> first | trivial | (simp [*, (show bookK l (k + 1) = _ from k1), (show bookK l.reverse (k + 1) = _ from k2), (show sumT allT (l.take (k + 1)) = _ from kst)]; done)))
            | skip
    · have hke : k = l.length := by omega
      subst hke
      clear kf kn ks c2 c3
      repeat' (first | (with_reducible first | refine awp_seq ?_ | refine awp_blockS ?_ | refine awp_blockC ?_ | refine awp_blockR ?_ | refine awp_skip ?_ | refine awp_ret ?_ | refine awp_exit ?_ | refine awp_region ?_ | refine awp_regionS (id := 10) [0, 1, 2, 3, 4, 5, 6, 7, 8, 9, 10] [11, 12] [[], [], [], [], [], [], [], [], [], [.new 0], []] [[.new 0], []] mixed (by decide +kernel) ?_ | refine awp_regionS (id := 11) [0, 1, 2, 3, 4, 5, 6, 7, 8, 9, 10, 11, 12, 13, 14] [15, 16] [[], [], [], [], [], [], [], [], [], [], [], [], [], [.new 0], []] [[.new 0], []] mixed (by decide +kernel) ?_ | refine awp_regionD (id := 13) 13 mixed (by decide +kernel) ?_ | refine awp_regionD (id := 30) 26 mixed (by decide +kernel) ?_ | refine awp_condM ?_ | refine And.intro ?_ ?_ | apply gQ_merge | apply gE_merge | exact EqV_w | exact EqE_w | exact EqV_ptr | exact EqE_ptr | exact EqV_msl | exact EqE_msl | exact EqV_agg | exact EqE_agg | exact EqV_fn | exact EqE_fn | exact EqV_gd | exact EqE_gd | refine gM_splitN ?_ ?_ | refine gM_split ?_ ?_ |  refine condM_splitDN ?_ ?_ | refine condM_splitD ?_ ?_ | refine condM_splitN ?_ ?_ | refine condM_split ?_ ?_ | refine condM_any ?_ ?_ | intro _) | (simp [*]))
      all_goals (refine finW_intro () ?_ ?_; (· trivial); (refine le_gen [] ?_ ?_ <;> first | trivial | (simp [*, List.take_length]; done)))
  · clear hf c2 c3 kf e0 e1 e2 e3 e4
    have hx := (show ∀ k, k ≤ l.length → k ≤ 10 → BookX (bookK l k) k from kx) l.length (Nat.le_refl _) hl
    have hy := (show ∀ k, k ≤ l.reverse.length → k ≤ 10 → BookX (bookK l.reverse k) k from ky) l.length (by rw [List.length_reverse]; exact Nat.le_refl _) hl
    clear kx ky
    obtain ⟨m0, m1, m2, m3, m4, hm, s1, s2, s3⟩ := five_bal l kn hl
    have hbd := (show ∀ k : Nat, k ≤ l.length → 0 ≤ sumT allT (l.take k) ∧ sumT allT (l.take k) ≤ 2000000 * (k : Int) from ks) l.length (Nat.le_refl _)
    rw [List.take_length] at hbd
    clear kn ks
    have c1 := copyBook_c (bookK l l.length) hx.bin
    have c2 := copyBook_c (bookK l.reverse l.length) hy.bin
    have c3 := balances_ok (bookK l l.length) hx.bin hx.right
    have c4 := balances_ok (bookK l.reverse l.length) hy.bin hy.right
    rw [hx.accs, show exAccs.length = 5 from rfl, hm] at c3
    rw [hy.accs, show exAccs.length = 5 from rfl, ← bookK_rev, hm] at c4
    have c5 := ints_eq [m0, m1, m2, m3, m4] (by decide : 5 < 100000)
    change RealCall _ _ [.sl 5 _, .sl 5 _] _ _ at c5
    have b0 := winB_iff.1 (s3 0 (by decide))
    have b1 := winB_iff.1 (s3 1 (by decide))
    have b2 := winB_iff.1 (s3 2 (by decide))
    have b3 := winB_iff.1 (s3 3 (by decide))
    have b4 := winB_iff.1 (s3 4 (by decide))
    change _ ≤ m0 ∧ m0 ≤ _ at b0
    change _ ≤ m1 ∧ m1 ≤ _ at b1
    change _ ≤ m2 ∧ m2 ≤ _ at b2
    change _ ≤ m3 ∧ m3 ≤ _ at b3
    change _ ≤ m4 ∧ m4 ≤ _ at b4
    have q0 : nth [m0, m1, m2, m3, m4] 0 = m0 := rfl
    have q1 : nth [m0, m1, m2, m3, m4] 1 = m1 := rfl
    have q2 : nth [m0, m1, m2, m3, m4] 2 = m2 := rfl
    have q3 : nth [m0, m1, m2, m3, m4] 3 = m3 := rfl
    have q4 : nth [m0, m1, m2, m3, m4] 4 = m4 := rfl
    have qW : [m0, m1, m2, m3, m4].length = 5 := rfl
    have k3 := keep s3
    clear hx hy hm s3
    generalize [m0, m1, m2, m3, m4] = W at *
    generalize bookK l l.length = b at *
    generalize bookK l.reverse l.length = c at *
    generalize sumT allT l = S at *
    obtain ⟨ba, be, bc⟩ := b
    obtain ⟨ca, ce, cc⟩ := c
    unfold cBook at *
    dsimp only at *
    repeat' (first | (with_reducible first | refine awp_seq ?_ | refine awp_blockS ?_ | refine awp_blockC ?_ | refine awp_blockR ?_ | refine awp_skip ?_ | refine awp_ret ?_ | refine awp_exit ?_ | refine awp_region ?_ | refine awp_regionS (id := 10) [0, 1, 2, 3, 4, 5, 6, 7, 8, 9, 10] [11, 12] [[], [], [], [], [], [], [], [], [], [.new 0], []] [[.new 0], []] mixed (by decide +kernel) ?_ | refine awp_regionS (id := 11) [0, 1, 2, 3, 4, 5, 6, 7, 8, 9, 10, 11, 12, 13, 14] [15, 16] [[], [], [], [], [], [], [], [], [], [], [], [], [], [.new 0], []] [[.new 0], []] mixed (by decide +kernel) ?_ | refine awp_regionD (id := 13) 13 mixed (by decide +kernel) ?_ | refine awp_regionD (id := 30) 26 mixed (by decide +kernel) ?_ | refine awp_condM ?_ | refine And.intro ?_ ?_ | apply gQ_merge | apply gE_merge | exact EqV_w | exact EqE_w | exact EqV_ptr | exact EqE_ptr | exact EqV_msl | exact EqE_msl | exact EqV_agg | exact EqE_agg | exact EqV_fn | exact EqE_fn | exact EqV_gd | exact EqE_gd | refine gM_splitN ?_ ?_ | refine gM_split ?_ ?_ |  refine condM_splitDN ?_ ?_ | refine condM_splitD ?_ ?_ | refine condM_splitN ?_ ?_ | refine condM_split ?_ ?_ | refine condM_any ?_ ?_ | refine cw (c1) ?_ | refine cw (c2) ?_ | refine cw (c3) ?_ | refine cw (c4) ?_ | refine cw (c5) ?_ | intro _) | (simp [*]) | (refine cw_eq (c1) ?_ ?_; (· (simp [*]; done))) | (refine cw_eq (c2) ?_ ?_; (· (simp [*]; done))) | (refine cw_eq (c3) ?_ ?_; (· (simp [*]; done))) | (refine cw_eq (c4) ?_ ?_; (· (simp [*]; done))) | (refine cw_eq (c5) ?_ ?_; (· (simp [*]; done))))
    clear c1 c2 c3 c4 c5
    refine awp_for3 (fun (k : Nat) => k ≤ 5) [3, 11] (fun (k : Nat) => [(15, .w false false (.int .i64 k))]) [] (fun (k : Nat) => []) (fun (k : Nat) => 5 - k) (fun (_u : Unit) => True) [3, 11] (fun (_u : Unit) => []) [] (fun (_u : Unit) => []) (0) (Nat.zero_le _) (by simp) (by simp) (fun k hk => ?_) (fun _u hf => ?_)
    · by_cases hlt : k < 5
      · have hI : (k : Int) < 5 := by omega
        have hW : k < W.length := by omega
        have cw := rWithin_c (nth W k) (-1000000000000000) 1000000000000000
        rw [(show ∀ i, i < 5 → winB (nth W i) (-1000000000000000) 1000000000000000 = true from k3) k hlt] at cw
        clear k3 q0 q1 q2 q3 q4
        repeat' (first | (with_reducible first | refine awp_seq ?_ | refine awp_blockS ?_ | refine awp_blockC ?_ | refine awp_blockR ?_ | refine awp_skip ?_ | refine awp_ret ?_ | refine awp_exit ?_ | refine awp_region ?_ | refine awp_regionS (id := 10) [0, 1, 2, 3, 4, 5, 6, 7, 8, 9, 10] [11, 12] [[], [], [], [], [], [], [], [], [], [.new 0], []] [[.new 0], []] mixed (by decide +kernel) ?_ | refine awp_regionS (id := 11) [0, 1, 2, 3, 4, 5, 6, 7, 8, 9, 10, 11, 12, 13, 14] [15, 16] [[], [], [], [], [], [], [], [], [], [], [], [], [], [.new 0], []] [[.new 0], []] mixed (by decide +kernel) ?_ | refine awp_regionD (id := 13) 13 mixed (by decide +kernel) ?_ | refine awp_regionD (id := 30) 26 mixed (by decide +kernel) ?_ | refine awp_condM ?_ | refine And.intro ?_ ?_ | apply gQ_merge | apply gE_merge | exact EqV_w | exact EqE_w | exact EqV_ptr | exact EqE_ptr | exact EqV_msl | exact EqE_msl | exact EqV_agg | exact EqE_agg | exact EqV_fn | exact EqE_fn | exact EqV_gd | exact EqE_gd | refine gM_splitN ?_ ?_ | refine gM_split ?_ ?_ |  refine condM_splitDN ?_ ?_ | refine condM_splitD ?_ ?_ | refine condM_splitN ?_ ?_ | refine condM_split ?_ ?_ | refine condM_any ?_ ?_ | refine cw (cw) ?_ | intro _) | (simp [*, hlt, hI, hW]) | (refine cw_eq (cw) ?_ ?_; (· (simp [*]; done))))
        all_goals first
          | exact inI64 (by omega) (by omega)
          | omega
          | (refine loopK_normal _ _ _ _ _ (k + 1) _ ?_ (by first | omega | (dsimp only; omega) | (simp; omega)) ?_; (· omega); (refine le_of ?_ ?_ <;> first | trivial | (simp [*]; done)))
          | skip
      · have hke : k = 5 := by omega
        subst hke
        clear k3
        repeat' (first | (with_reducible first | refine awp_seq ?_ | refine awp_blockS ?_ | refine awp_blockC ?_ | refine awp_blockR ?_ | refine awp_skip ?_ | refine awp_ret ?_ | refine awp_exit ?_ | refine awp_region ?_ | refine awp_regionS (id := 10) [0, 1, 2, 3, 4, 5, 6, 7, 8, 9, 10] [11, 12] [[], [], [], [], [], [], [], [], [], [.new 0], []] [[.new 0], []] mixed (by decide +kernel) ?_ | refine awp_regionS (id := 11) [0, 1, 2, 3, 4, 5, 6, 7, 8, 9, 10, 11, 12, 13, 14] [15, 16] [[], [], [], [], [], [], [], [], [], [], [], [], [], [.new 0], []] [[.new 0], []] mixed (by decide +kernel) ?_ | refine awp_regionD (id := 13) 13 mixed (by decide +kernel) ?_ | refine awp_regionD (id := 30) 26 mixed (by decide +kernel) ?_ | refine awp_condM ?_ | refine And.intro ?_ ?_ | apply gQ_merge | apply gE_merge | exact EqV_w | exact EqE_w | exact EqV_ptr | exact EqE_ptr | exact EqV_msl | exact EqE_msl | exact EqV_agg | exact EqE_agg | exact EqV_fn | exact EqE_fn | exact EqV_gd | exact EqE_gd | refine gM_splitN ?_ ?_ | refine gM_split ?_ ?_ |  refine condM_splitDN ?_ ?_ | refine condM_splitD ?_ ?_ | refine condM_splitN ?_ ?_ | refine condM_split ?_ ?_ | refine condM_any ?_ ?_ | intro _) | (simp [*]))
        all_goals (refine finW_intro () ?_ ?_; (· trivial); (refine le_of ?_ ?_ <;> first | trivial | (simp [*]; done)))
    · clear hf k3
      have hS : m0 + m1 = S := s1
      have hT : m2 + m3 + m4 = -S := s2
      clear s1 s2
      repeat' (first | (with_reducible first | refine awp_seq ?_ | refine awp_blockS ?_ | refine awp_blockC ?_ | refine awp_blockR ?_ | refine awp_skip ?_ | refine awp_ret ?_ | refine awp_exit ?_ | refine awp_region ?_ | refine awp_regionS (id := 10) [0, 1, 2, 3, 4, 5, 6, 7, 8, 9, 10] [11, 12] [[], [], [], [], [], [], [], [], [], [.new 0], []] [[.new 0], []] mixed (by decide +kernel) ?_ | refine awp_regionS (id := 11) [0, 1, 2, 3, 4, 5, 6, 7, 8, 9, 10, 11, 12, 13, 14] [15, 16] [[], [], [], [], [], [], [], [], [], [], [], [], [], [.new 0], []] [[.new 0], []] mixed (by decide +kernel) ?_ | refine awp_regionD (id := 13) 13 mixed (by decide +kernel) ?_ | refine awp_regionD (id := 30) 26 mixed (by decide +kernel) ?_ | refine awp_condM ?_ | refine And.intro ?_ ?_ | apply gQ_merge | apply gE_merge | exact EqV_w | exact EqE_w | exact EqV_ptr | exact EqE_ptr | exact EqV_msl | exact EqE_msl | exact EqV_agg | exact EqE_agg | exact EqV_fn | exact EqE_fn | exact EqV_gd | exact EqE_gd | refine gM_splitN ?_ ?_ | refine gM_split ?_ ?_ |  refine condM_splitDN ?_ ?_ | refine condM_splitD ?_ ?_ | refine condM_splitN ?_ ?_ | refine condM_split ?_ ?_ | refine condM_any ?_ ?_ | intro _) | (simp [*, q0, q1, q2, q3, q4, qW, hS, hT]))
      all_goals first
        | exact inI64 (by omega) (by omega)
        | omega
theorem topAccountBalances_c (l : List Trip) : RealCall Try.prog 3 [.sl l.length (cTrips l)] (.bool true) true := by
  cases h : tripsB l with
  | true => exact top_main l h
  | false =>
    have c0 := accounted_c
    have c1 := trips_c l
    rw [h] at c1
    refine realcall_intro Try.func3 (by kernel_rfl) rfl (Nat.le_of_ble_eq_true (by kernel_rfl)) ?_
    simp only [Try.results3, Try.ntmps3]
    repeat' (first | (with_reducible first | refine awp_seq ?_ | refine awp_blockS ?_ | refine awp_blockC ?_ | refine awp_blockR ?_ | refine awp_skip ?_ | refine awp_ret ?_ | refine awp_exit ?_ | refine awp_region ?_ | refine awp_regionS (id := 10) [0, 1, 2, 3, 4, 5, 6, 7, 8, 9, 10] [11, 12] [[], [], [], [], [], [], [], [], [], [.new 0], []] [[.new 0], []] mixed (by decide +kernel) ?_ | refine awp_regionS (id := 11) [0, 1, 2, 3, 4, 5, 6, 7, 8, 9, 10, 11, 12, 13, 14] [15, 16] [[], [], [], [], [], [], [], [], [], [], [], [], [], [.new 0], []] [[.new 0], []] mixed (by decide +kernel) ?_ | refine awp_regionD (id := 13) 13 mixed (by decide +kernel) ?_ | refine awp_regionD (id := 30) 26 mixed (by decide +kernel) ?_ | refine awp_condM ?_ | refine And.intro ?_ ?_ | apply gQ_merge | apply gE_merge | exact EqV_w | exact EqE_w | exact EqV_ptr | exact EqE_ptr | exact EqV_msl | exact EqE_msl | exact EqV_agg | exact EqE_agg | exact EqV_fn | exact EqE_fn | exact EqV_gd | exact EqE_gd | refine gM_splitN ?_ ?_ | refine gM_split ?_ ?_ |  refine condM_splitDN ?_ ?_ | refine condM_splitD ?_ ?_ | refine condM_splitN ?_ ?_ | refine condM_split ?_ ?_ | refine condM_any ?_ ?_ | refine cw (c0) ?_ | refine cw (c1) ?_ | intro _) | (simp [*]) | (refine cw_eq (c0) ?_ ?_; (· (simp [*]; done))) | (refine cw_eq (c1) ?_ ?_; (· (simp [*]; done))))
end Go.Proofs.Ytdgbfbgnbgfmjaa

