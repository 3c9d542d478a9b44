/- Contracts of functions for this claim: lemmas alone. -/
import Derived.Test.YtpjhpmpbdfeajaaGreatDoorP26
import Derived.Test.YtpjhpmpbdfeajaaGreatDoorP13
import Derived.Test.YtpjhpmpbdfeajaaGreatDoorP18
import Derived.Test.YtpjhpmpbdfeajaaGreatDoorP9
set_option linter.unusedSimpArgs false
set_option linter.unusedVariables false
namespace Go.Proofs.YtpjhpmpbdfeajaaGreatDoor
open Go Go.Fi
set_option maxRecDepth 20000

theorem divAll_small (a : Nat) (ns : List Nat) (h0 : 0 < sumN ns) (h : ∀ k, k < ns.length → a * nth ns k < 18446744073709551616) : DivAll a ns := by
  intro k hk
  have h1 := h k hk
  rw [Nat.div_eq_of_lt h1, Nat.mod_eq_of_lt h1]
  exact divSmall_c _ _ h0 h1
def exLines : List Line := [⟨bs [99, 97, 115, 104], 600⟩, ⟨bs [118, 111, 117, 99, 104, 101, 114, 115], 500⟩, ⟨bs [111, 119, 110, 101, 114], -501⟩, ⟨bs [97, 110, 110], -400⟩, ⟨bs [111, 102, 102, 105, 99, 101], -100⟩, ⟨bs [97, 110, 110], -99⟩]
def exEntry : Entry := ⟨12, bs [116, 114, 105, 112, 49], exLines⟩
def exText : ByteArray := bs [49, 50, 32, 116, 114, 105, 112, 49, 32, 99, 97, 115, 104, 61, 54, 48, 48, 32, 118, 111, 117, 99, 104, 101, 114, 115, 61, 53, 48, 48, 32, 111, 119, 110, 101, 114, 61, 45, 53, 48, 49, 32, 97, 110, 110, 61, 45, 52, 48, 48, 32, 111, 102, 102, 105, 99, 101, 61, 45, 49, 48, 48, 32, 97, 110, 110, 61, 45, 57, 57]
def exWords : List ByteArray := [bs [49, 50], bs [116, 114, 105, 112, 49], bs [99, 97, 115, 104, 61, 54, 48, 48], bs [118, 111, 117, 99, 104, 101, 114, 115, 61, 53, 48, 48], bs [111, 119, 110, 101, 114, 61, 45, 53, 48, 49], bs [97, 110, 110, 61, 45, 52, 48, 48], bs [111, 102, 102, 105, 99, 101, 61, 45, 49, 48, 48], bs [97, 110, 110, 61, 45, 57, 57]]
theorem exPieces : pieces exText ⟨#[32]⟩ = exWords := by decide +kernel
theorem exDate : NumOk (bs [49, 50]) 12 := ⟨by decide +kernel, by kernel_rfl, by decide, by decide, by decide +kernel, by decide +kernel⟩
theorem exNum0 : NumOk (bs [54, 48, 48]) (600) := ⟨by decide +kernel, by kernel_rfl, by decide, by decide, by decide +kernel, by decide +kernel⟩
theorem exLine0 : LineOk (bs [99, 97, 115, 104, 61, 54, 48, 48]) ⟨bs [99, 97, 115, 104], 600⟩ := ⟨by decide +kernel, by decide +kernel, by decide +kernel, _, exNum0, by decide +kernel, by decide +kernel⟩
theorem exNum1 : NumOk (bs [53, 48, 48]) (500) := ⟨by decide +kernel, by kernel_rfl, by decide, by decide, by decide +kernel, by decide +kernel⟩
theorem exLine1 : LineOk (bs [118, 111, 117, 99, 104, 101, 114, 115, 61, 53, 48, 48]) ⟨bs [118, 111, 117, 99, 104, 101, 114, 115], 500⟩ := ⟨by decide +kernel, by decide +kernel, by decide +kernel, _, exNum1, by decide +kernel, by decide +kernel⟩
theorem exNum2 : NumOk (bs [45, 53, 48, 49]) (-501) := ⟨by decide +kernel, by kernel_rfl, by decide, by decide, by decide +kernel, by decide +kernel⟩
theorem exLine2 : LineOk (bs [111, 119, 110, 101, 114, 61, 45, 53, 48, 49]) ⟨bs [111, 119, 110, 101, 114], -501⟩ := ⟨by decide +kernel, by decide +kernel, by decide +kernel, _, exNum2, by decide +kernel, by decide +kernel⟩
theorem exNum3 : NumOk (bs [45, 52, 48, 48]) (-400) := ⟨by decide +kernel, by kernel_rfl, by decide, by decide, by decide +kernel, by decide +kernel⟩
theorem exLine3 : LineOk (bs [97, 110, 110, 61, 45, 52, 48, 48]) ⟨bs [97, 110, 110], -400⟩ := ⟨by decide +kernel, by decide +kernel, by decide +kernel, _, exNum3, by decide +kernel, by decide +kernel⟩
theorem exNum4 : NumOk (bs [45, 49, 48, 48]) (-100) := ⟨by decide +kernel, by kernel_rfl, by decide, by decide, by decide +kernel, by decide +kernel⟩
theorem exLine4 : LineOk (bs [111, 102, 102, 105, 99, 101, 61, 45, 49, 48, 48]) ⟨bs [111, 102, 102, 105, 99, 101], -100⟩ := ⟨by decide +kernel, by decide +kernel, by decide +kernel, _, exNum4, by decide +kernel, by decide +kernel⟩
theorem exNum5 : NumOk (bs [45, 57, 57]) (-99) := ⟨by decide +kernel, by kernel_rfl, by decide, by decide, by decide +kernel, by decide +kernel⟩
theorem exLine5 : LineOk (bs [97, 110, 110, 61, 45, 57, 57]) ⟨bs [97, 110, 110], -99⟩ := ⟨by decide +kernel, by decide +kernel, by decide +kernel, _, exNum5, by decide +kernel, by decide +kernel⟩
theorem exTextOk : TextOk exText exEntry := by
  refine ⟨by decide +kernel, ?_, by decide, ?_, ?_, ?_, ?_⟩
  · rw [exPieces]; rfl
  · rw [exPieces]; decide +kernel
  · rw [exPieces]; exact exDate
  · rw [exPieces]; rfl
  · intro k hk
    rw [exPieces]
    match k, hk with
    | 0, _ => exact exLine0
    | 1, _ => exact exLine1
    | 2, _ => exact exLine2
    | 3, _ => exact exLine3
    | 4, _ => exact exLine4
    | 5, _ => exact exLine5
    | _ + 6, h => exact absurd h (by show ¬ (_ + 6 < 6); omega)
end Go.Proofs.YtpjhpmpbdfeajaaGreatDoor
namespace Go.Proofs.YtpjhpmpbdfeajaaGreatDoor
open Go Go.Fi
set_option maxRecDepth 20000

/-! ### the law's example -/
deriving instance DecidableEq for Line
deriving instance DecidableEq for Entry
theorem splitIn_ex : SplitIn 1001 [50, 40, 10] := ⟨by decide, by decide, by decide, by decide⟩
theorem splitS_ex : splitS 1001 [50, 40, 10] = [501, 400, 100] := by decide +kernel
theorem split_ex : MkCall Tryz.prog 40 [.int .i64 1001, .sl 3 [.int .i64 50, .int .i64 40, .int .i64 10]] [iA [501, 400, 100]] (.msl 0 3 1 0 3) := by
  have h := split_mk 1001 [50, 40, 10] splitIn_ex (divAll_small _ _ (by decide) (by decide))
  rw [splitS_ex] at h
  exact h
theorem splitF_ex : RealCall Tryz.prog 7 [.int .i64 1001, .sl 3 [.int .i64 50, .int .i64 40, .int .i64 10]] (.tup [.sl 3 [.int .i64 501, .int .i64 400, .int .i64 100], .int .i64 0]) true :=
  splitF_ok 1001 [50, 40, 10] (by decide) (by decide +kernel) [501, 400, 100] rfl split_ex
theorem accsIn_ex : AccsIn exAccs := by
  refine ⟨by decide, ?_⟩
  intro k hk
  match k, hk with
  | 0, _ => decide
  | 1, _ => decide
  | 2, _ => decide
  | 3, _ => decide
  | 4, _ => decide
  | _ + 5, h => exact absurd h (by show ¬ (_ + 5 < 5); omega)
theorem ruleOk_ex : RuleOk exAccs exRule := by
  refine ⟨by decide +kernel, ?_, ?_⟩ <;> decide +kernel
theorem rule_ex : RealCall Tryz.prog 66 [.sl 5 (cAccs exAccs), .agg (cRule exRule)] (.int .i64 0) true := by
  have h := checkRule_ok exAccs accsIn_ex exRule ruleOk_ex
  rw [show shareE (sharesOf exRule) = 0 by decide +kernel] at h
  exact h
theorem fare_ex : RealCall Tryz.prog 30 [.sl 5 (cAccs exAccs), .agg (cRule exRule), .agg (cTrip exTrip)] (.tup [.agg (cEntry exEntry), .int .i64 0]) false := by
  have cl := largest_c exEntry (by decide)
  rw [show largestS exEntry = (exEntry, 0) by decide +kernel] at cl
  have h := fareEntry_t exAccs exRule exTrip rule_ex (by decide) (by decide +kernel) ⟨by decide, by decide⟩ ⟨by decide, by decide⟩ ⟨by decide, by decide⟩ [501, 400, 100] rfl (by decide) split_ex exEntry 0 cl
  exact h
def exBook : Book := ⟨exAccs, [exEntry], 0⟩
theorem bookIn_ex : BookIn exBook := by
  refine ⟨accsIn_ex, by decide, ?_⟩
  intro k hk
  match k, hk with
  | 0, _ => exact ⟨by decide, by decide⟩
  | _ + 1, h => exact absurd h (by show ¬ (_ + 1 < 1); omega)
def exClose : Entry := ⟨29, bs [99, 108, 111, 115, 105, 110, 103], [⟨bs [111, 102, 102, 105, 99, 101], 100⟩, ⟨bs [111, 119, 110, 101, 114], -100⟩]⟩
theorem close_ex : RealCall Tryz.prog 35 [.agg (cBook exBook), .int .i64 0, .str (bs [111, 119, 110, 101, 114])] (.tup [.agg (cEntry exClose), .int .i64 0]) true := by
  have h := closingOf_c exBook bookIn_ex 0 (bs [111, 119, 110, 101, 114])
  rw [show closeS exBook 0 (bs [111, 119, 110, 101, 114]) = (exClose, 0) by decide +kernel] at h
  exact h
def exCompl : Compl := ⟨0, bs [99], 1500, 1200, 1300, 100⟩
theorem decide_ex : RealCall Tryz.prog 34 [.agg (cCompl exCompl)] (.tup [.int .i64 200, .int .i64 2, .int .i64 0]) true := by
  have h := decide_c exCompl (by decide)
  rw [show decS exCompl = (200, 2, 0) by decide +kernel] at h
  exact h
theorem entryT_ex : EntryT exClose := by
  refine ⟨by decide, by decide, ?_, by decide, by decide, ?_, ?_⟩ <;>
  · intro k hk
    match k, hk with
    | 0, _ => decide
    | 1, _ => decide
    | _ + 2, h => exact absurd h (by show ¬ (_ + 2 < 2); omega)
theorem format_ex : RealCall Tryz.prog 17 [.agg (cEntry exClose)] (.str (bs [50, 57, 32, 99, 108, 111, 115, 105, 110, 103, 32, 111, 102, 102, 105, 99, 101, 61, 49, 48, 48, 32, 111, 119, 110, 101, 114, 61, 45, 49, 48, 48])) true := by
  have h := format_c exClose entryT_ex
  rw [show formatS exClose = bs [50, 57, 32, 99, 108, 111, 115, 105, 110, 103, 32, 111, 102, 102, 105, 99, 101, 61, 49, 48, 48, 32, 111, 119, 110, 101, 114, 61, 45, 49, 48, 48] by decide +kernel] at h
  exact h
theorem same_ex : RealCall Tryz.prog 22 [.agg (cEntry exEntry), .agg (cEntry exEntry)] (.bool true) true := sameEntry_c exEntry (by decide)
theorem ints_ex : RealCall Tryz.prog 10 [.sl 3 [.int .i64 501, .int .i64 400, .int .i64 100], .sl 3 [.int .i64 501, .int .i64 400, .int .i64 100]] (.bool true) true := ints_eq [501, 400, 100] (by decide)
theorem parse_ex : RealCall Tryz.prog 19 [.str exText] (.tup [.agg (cEntry exEntry), .int .i64 0]) true := parse_ok exText exEntry exTextOk
set_option maxHeartbeats 4000000 in
theorem awake_c : RealCall Tryz.prog 6 [] (.bool true) true := by
  have c1 := splitF_ex
  have c2 := names_c
  have c3 := rule_c
  have c4 := trip_c
  have c5 := fare_ex
  have c6 := decide_ex
  have c7 := parse_ex
  have c8 := close_ex
  have c9 := format_ex
  have c10 := same_ex
  have c11 := ints_ex
  have e1 : cEntry exEntry = [.int .i64 12, .str (bs [116, 114, 105, 112, 49]), .sl 6 (cLines exLines)] := rfl
  have e2 : cEntry exClose = [.int .i64 29, .str (bs [99, 108, 111, 115, 105, 110, 103]), .sl 2 (cLines exClose.lines)] := rfl
  have e3 : cCompl exCompl = [.int .i64 0, .str (bs [99]), .int .i64 1500, .int .i64 1200, .int .i64 1300, .int .i64 100] := rfl
  have e4 : cBook exBook = [.sl 5 (cAccs exAccs), .sl 1 [.int .i64 12, .str (bs [116, 114, 105, 112, 49]), .sl 6 (cLines exLines)], .int .i64 0] := rfl
  have e5 : (cAccs exAccs).length = 10 := rfl
  rw [e1] at c5 c7 c10
  rw [e2] at c8 c9
  rw [e3] at c6
  rw [e4] at c8
  clear e1 e2 e3 e4
  unfold exText bs at *
  generalize cLines exLines = xl at *
  generalize cLines exClose.lines = yl at *
  generalize cAccs exAccs = al at *
  generalize cRule exRule = ru at *
  generalize cTrip exTrip = tr at *
  refine realcall_intro Tryz.func6 (by kernel_rfl) rfl (Nat.le_of_ble_eq_true (by kernel_rfl)) ?_
  simp only [Tryz.results6, Tryz.ntmps6]
  repeat' (first | (with_reducible first | refine awp_seq ?_ | refine awp_blockS ?_ | refine awp_blockC ?_ | refine awp_blockR ?_ | refine awp_skip ?_ | refine awp_ret ?_ | refine awp_exit ?_ | refine awp_region ?_ | refine awp_regionS (id := 5) [0, 1, 2, 3, 4, 5, 6, 7, 8] [9, 10] [[], [], [], [], [], [], [], [.new 1], []] [[.new 1], []] mixed (by decide +kernel) ?_ | refine awp_condM ?_ | refine And.intro ?_ ?_ | apply gQ_merge | apply gE_merge | exact EqV_w | exact EqE_w | exact EqV_ptr | exact EqE_ptr | exact EqV_msl | exact EqE_msl | exact EqV_agg | exact EqE_agg | exact EqV_fn | exact EqE_fn | exact EqV_gd | exact EqE_gd | refine gM_splitN ?_ ?_ | refine gM_split ?_ ?_ |  refine condM_splitDN ?_ ?_ | refine condM_splitD ?_ ?_ | refine condM_splitN ?_ ?_ | refine condM_split ?_ ?_ | refine condM_any ?_ ?_ | refine cw (c1) ?_ | refine cw (c2) ?_ | refine cw (c3) ?_ | refine cw (c4) ?_ | refine cw (c5) ?_ | refine cw (c6) ?_ | refine cw (c7) ?_ | refine cw (c8) ?_ | refine cw (c9) ?_ | refine cw (c10) ?_ | refine cw (c11) ?_ | intro _) | (simp [*, repl]) | (refine cw_eq (c1) ?_ ?_; (· (simp [*]; done))) | (refine cw_eq (c2) ?_ ?_; (· (simp [*]; done))) | (refine cw_eq (c3) ?_ ?_; (· (simp [*]; done))) | (refine cw_eq (c4) ?_ ?_; (· (simp [*]; done))) | (refine cw_eq (c5) ?_ ?_; (· (simp [*]; done))) | (refine cw_eq (c6) ?_ ?_; (· (simp [*]; done))) | (refine cw_eq (c7) ?_ ?_; (· (simp [*]; done))) | (refine cw_eq (c8) ?_ ?_; (· (simp [*]; done))) | (refine cw_eq (c9) ?_ ?_; (· (simp [*]; done))) | (refine cw_eq (c10) ?_ ?_; (· (simp [*]; done))) | (refine cw_eq (c11) ?_ ?_; (· (simp [*]; done))))
end Go.Proofs.YtpjhpmpbdfeajaaGreatDoor

