/- Contracts of functions for this claim: lemmas alone. -/
import Derived.Test.YtlcimflkjfbaoaaGreatP93
import Derived.Test.YtlcimflkjfbaoaaGreatP86
import Derived.Test.YtlcimflkjfbaoaaGreatP67
import Derived.Test.YtlcimflkjfbaoaaGreatP38
import Derived.Test.YtlcimflkjfbaoaaGreatP32
set_option linter.unusedSimpArgs false
set_option linter.unusedVariables false
namespace Go.Proofs.YtlcimflkjfbaoaaGreat
open Go Go.Fi
set_option maxRecDepth 20000

/-! ### trips -/
def cTrips (l : List Trip) : List PV := l.flatMap cTrip
@[simp] theorem cTrips_len (l : List Trip) : (cTrips l).length = l.length * 5 := flatMap_len cTrip 5 (fun _ => rfl) l
@[simp] theorem cTrips_drop (l : List Trip) (k : Nat) (h : k < l.length) : ((cTrips l).drop (k * 5)).take 5 = cTrip (nth l k) := flatMap_drop cTrip 5 (fun _ => rfl) l k h
@[simp] theorem cTrips_1 (l : List Trip) (k : Nat) (h : k < l.length) : nthP (cTrips l) (k * 5 + 1) = .str (nth l k).note := flatMap_get cTrip 5 (fun _ => rfl) l k 1 h (by omega)
@[simp] theorem cTrips_2 (l : List Trip) (k : Nat) (h : k < l.length) : nthP (cTrips l) (k * 5 + 2) = .int .i64 (nth l k).fare := flatMap_get cTrip 5 (fun _ => rfl) l k 2 h (by omega)
@[simp] theorem cTrips_3 (l : List Trip) (k : Nat) (h : k < l.length) : nthP (cTrips l) (k * 5 + 3) = .int .i64 (nth l k).tip := flatMap_get cTrip 5 (fun _ => rfl) l k 3 h (by omega)
@[simp] theorem cTrips_4 (l : List Trip) (k : Nat) (h : k < l.length) : nthP (cTrips l) (k * 5 + 4) = .int .i64 (nth l k).voucher := flatMap_get cTrip 5 (fun _ => rfl) l k 4 h (by omega)
theorem accounted_c : RealCall Tryz.prog 4 [] (.bool true) true := by
  have c1 := splitF_ex
  have c2 := names_c
  have c3 := rule_c
  have c4 := trip_c
  have c5 := fare_ex
  have c6 := ints_ex
  have hl : exEntry.lines.length = 6 := rfl
  unfold cEntry at c5
  rw [hl] at c5
  generalize cAccs exAccs = A at *
  generalize cRule exRule = B at *
  generalize cTrip exTrip = C at *
  generalize exEntry.date = x1 at *
  generalize exEntry.note = x2 at *
  have h6 : (cLines exEntry.lines).length = 12 := rfl
  generalize cLines exEntry.lines = L at *
  refine realcall_intro Tryz.func4 (by kernel_rfl) rfl (Nat.le_of_ble_eq_true (by kernel_rfl)) ?_
  simp only [Tryz.results4, Tryz.ntmps4]
  repeat' (first | (with_reducible first | refine awp_seq ?_ | refine awp_blockS ?_ | refine awp_blockC ?_ | refine awp_blockR ?_ | refine awp_skip ?_ | refine awp_ret ?_ | refine awp_exit ?_ | refine awp_region ?_ | refine awp_condM ?_ | refine And.intro ?_ ?_ | apply gQ_merge | apply gE_merge | exact EqV_w | exact EqE_w | exact EqV_ptr | exact EqE_ptr | exact EqV_msl | exact EqE_msl | exact EqV_agg | exact EqE_agg | exact EqV_fn | exact EqE_fn | exact EqV_gd | exact EqE_gd | refine gM_splitN ?_ ?_ | refine gM_split ?_ ?_ |  refine condM_splitDN ?_ ?_ | refine condM_splitD ?_ ?_ | refine condM_splitN ?_ ?_ | refine condM_split ?_ ?_ | refine condM_any ?_ ?_ | refine cw (c1) ?_ | refine cw (c2) ?_ | refine cw (c3) ?_ | refine cw (c4) ?_ | refine cw (c5) ?_ | refine cw (c6) ?_ | intro _) | (simp [*]) | (refine cw_eq (c1) ?_ ?_; (· (simp [*]; done))) | (refine cw_eq (c2) ?_ ?_; (· (simp [*]; done))) | (refine cw_eq (c3) ?_ ?_; (· (simp [*]; done))) | (refine cw_eq (c4) ?_ ?_; (· (simp [*]; done))) | (refine cw_eq (c5) ?_ ?_; (· (simp [*]; done))) | (refine cw_eq (c6) ?_ ?_; (· (simp [*]; done))))
end Go.Proofs.YtlcimflkjfbaoaaGreat
namespace Go.Proofs.YtlcimflkjfbaoaaGreat
open Go Go.Fi
set_option maxRecDepth 20000

/-! ### the books of a day, and what they come to -/
theorem fr_weak {f : Nat} {args : List PV} {res : PV} (h : RealCall Tryz.prog f args res true) : RealCall Tryz.prog f args res false :=
  ⟨h.1, fun G w vs hl ho hr => (h.2 G w vs hl ho hr).mono fun e w' ⟨v, h1, h2, h3⟩ => ⟨v, h1, h2, h3.imp fun b hb => ⟨hb.1, fun hf => by cases hf⟩⟩⟩
theorem rule_zero : ruleS exAccs exRule = 0 := by
  rw [ruleS_ok ruleOk_ex.accs ruleOk_ex.has ruleOk_ex.apart]
  decide +kernel
theorem ruleOk_x : RuleOk exAccs exRule := (ruleS_zero rule_zero).1
theorem shares_x : SharesOk exRule := sharesOk (ruleS_zero rule_zero).2
def fX (t : Trip) : Entry × Int := fareR exRule t
theorem fX_bad {t : Trip} (h : ¬ fareChk 0 t = 0) : fX t = (noEntry, fareChk 0 t) := by
  unfold fX fareR
  rw [if_neg h]
theorem fareAny_c (t : Trip) (hn : t.note.size < 1000000) : RealCall Tryz.prog 10 [.sl 5 (cAccs exAccs), .agg (cRule exRule), .agg (cTrip t)] (.tup [.agg (cEntry (fX t).1), .int .i64 (fX t).2]) false := by
  by_cases h : fareChk 0 t = 0
  · exact fareEntry_ok exAccs accsIn_ex exRule t hn rule_zero h
  · rw [fX_bad h]
    have c := fareEntry_bad exAccs accsIn_ex exRule t hn (by rw [rule_zero]; exact h)
    rw [rule_zero] at c
    exact fr_weak c
theorem fX_entry {t : Trip} (h : (fX t).2 = 0) : (entryS exAccs (fX t).1).2 = 0 ∧ (fX t).1 = ⟨t.date, t.note, fareLn exRule t⟩ ∧ sumW (fun a => decide (a = exRule.owner) || decide (a = exRule.driver) || decide (a = exRule.office)) (fareLn exRule t) = -(t.fare + t.tip) :=
  fareR_right ruleOk_x shares_x h
theorem fX_in {t : Trip} (hn : t.note.size < 1000000) (h : (fX t).2 = 0) : EntryIn (fX t).1 := by
  obtain ⟨h1, h2, _⟩ := fX_entry h
  have := (headE_zero (entryS_zero h1).1).2.2.2.2
  refine ⟨?_, by omega⟩
  rw [h2]
  exact hn
theorem bookK_0 : (bookS (⟨exAccs, [], 0⟩ : Book)).2 = 0 := by decide +kernel
structure BookX (b : Book) (k : Nat) : Prop where
  accs : b.accs = exAccs
  closed : b.closed = 0
  len : b.entries.length ≤ k
  right : (bookS b).2 = 0
  bin : BookIn b
end Go.Proofs.YtlcimflkjfbaoaaGreat

