/- Contracts of functions for this claim: lemmas alone. -/
import Derived.Test.YtpjhpmpbdfeajaaGreatDoorP203
import Derived.Test.YtpjhpmpbdfeajaaGreatDoorP9
import Derived.Test.YtpjhpmpbdfeajaaGreatDoorLw
set_option linter.unusedSimpArgs false
set_option linter.unusedVariables false
namespace Go.Proofs.YtpjhpmpbdfeajaaGreatDoor
open Go Go.Fi Go.RowKit
set_option maxRecDepth 20000

/-! ### reading texts that are wrong -/
theorem line_ok {s : ByteArray} {y : Line} (hs : s.size < 1000) (h : lineS s = some y) : LineOk s y := by
  unfold lineS at h
  split at h
  · rename_i hc
    obtain ⟨n, hn, e⟩ := Option.map_eq_some_iff.1 h
    subst e
    exact ⟨hs, hc.1, hc.2, cutB s 61, num_ok (by have := cutB_size s 61; omega) hn, rfl, rfl⟩
  · cases h
set_option maxHeartbeats 4000000 in
theorem lineOf_bad (s : ByteArray) (hs : s.size < 1000) (h : lineS s = none) : ∃ (y : Line) (t : ByteArray), RealCall Tryz.prog 94 [.str s] (.tup [.agg (cLine y), errW t]) false := by
  have c1 : RealCall Tryz.prog 128 [.str s, .str ⟨#[61]⟩] (.tup [.str (cutA s 61), .str (cutB s 61), .bool (Lib.cut s.data.toList [61]).2.2]) true := cut_c s ⟨#[61]⟩ (by omega)
  have c2 := count_c s 61
  generalize (Lib.cut s.data.toList [61]).2.2 = b at *
  unfold lineS at h
  by_cases hc : Lib.countByte s.data.toList 61 = 1
  · rw [hc] at c2 h
    by_cases hn : cutA s 61 = ⟨#[]⟩
    · refine ⟨⟨⟨#[]⟩, 0⟩, s, ?_⟩
      rw [hn] at c1
      clear h hc hn
      generalize cutB s 61 = q at *
      unfold cLine
      refine realcall_intro Tryz.func94 (by kernel_rfl) rfl (Nat.le_of_ble_eq_true (by kernel_rfl)) ?_
      simp only [Tryz.results94, Tryz.ntmps94]
      repeat' (first | (with_reducible first | refine awp_seq ?_ | refine awp_blockS ?_ | refine awp_blockC ?_ | refine awp_blockR ?_ | refine awp_skip ?_ | refine awp_ret ?_ | refine awp_exit ?_ | refine awp_region ?_ | refine awp_condM ?_ | refine And.intro ?_ ?_ | apply gQ_merge | apply gE_merge | exact EqV_w | exact EqE_w | exact EqV_ptr | exact EqE_ptr | exact EqV_msl | exact EqE_msl | exact EqV_agg | exact EqE_agg | exact EqV_fn | exact EqE_fn | exact EqV_gd | exact EqE_gd | refine gM_splitN ?_ ?_ | refine gM_split ?_ ?_ |  refine condM_splitDN ?_ ?_ | refine condM_splitD ?_ ?_ | refine condM_splitN ?_ ?_ | refine condM_split ?_ ?_ | refine condM_any ?_ ?_ | refine cw (c1) ?_ | refine cw (c2) ?_ | intro _) | (simp [*]) | (refine cw_eq (c1) ?_ ?_; (· (simp [*]; done))) | (refine cw_eq (c2) ?_ ?_; (· (simp [*]; done))))
      all_goals try rfl
    · rw [if_pos ⟨rfl, hn⟩] at h
      have h0 : numS (cutB s 61) = none := by
        cases hq : numS (cutB s 61) with
        | none => rfl
        | some v => rw [hq] at h; cases h
      have hz := cutB_size s 61
      have c3 := number_bad (cutB s 61) (by omega) h0
      refine ⟨⟨cutA s 61, 0⟩, cutB s 61, ?_⟩
      clear h hc h0 hz
      generalize cutA s 61 = p at *
      generalize cutB s 61 = q at *
      unfold cLine
      refine realcall_intro Tryz.func94 (by kernel_rfl) rfl (Nat.le_of_ble_eq_true (by kernel_rfl)) ?_
      simp only [Tryz.results94, Tryz.ntmps94]
      repeat' (first | (with_reducible first | refine awp_seq ?_ | refine awp_blockS ?_ | refine awp_blockC ?_ | refine awp_blockR ?_ | refine awp_skip ?_ | refine awp_ret ?_ | refine awp_exit ?_ | refine awp_region ?_ | refine awp_condM ?_ | refine And.intro ?_ ?_ | apply gQ_merge | apply gE_merge | exact EqV_w | exact EqE_w | exact EqV_ptr | exact EqE_ptr | exact EqV_msl | exact EqE_msl | exact EqV_agg | exact EqE_agg | exact EqV_fn | exact EqE_fn | exact EqV_gd | exact EqE_gd | refine gM_splitN ?_ ?_ | refine gM_split ?_ ?_ |  refine condM_splitDN ?_ ?_ | refine condM_splitD ?_ ?_ | refine condM_splitN ?_ ?_ | refine condM_split ?_ ?_ | refine condM_any ?_ ?_ | refine cw (c1) ?_ | refine cw (c2) ?_ | refine cw (c3) ?_ | intro _) | (simp [*, hn]) | (refine cw_eq (c1) ?_ ?_; (· (simp [*]; done))) | (refine cw_eq (c2) ?_ ?_; (· (simp [*]; done))) | (refine cw_eq (c3) ?_ ?_; (· (simp [*]; done))))
      all_goals try rfl
  · have hcI : ¬ ((Lib.countByte s.data.toList 61 : Nat) : Int) = 1 := by omega
    refine ⟨⟨⟨#[]⟩, 0⟩, s, ?_⟩
    clear h hc
    generalize Lib.countByte s.data.toList 61 = k at *
    generalize cutA s 61 = p at *
    generalize cutB s 61 = q at *
    unfold cLine
    refine realcall_intro Tryz.func94 (by kernel_rfl) rfl (Nat.le_of_ble_eq_true (by kernel_rfl)) ?_
    simp only [Tryz.results94, Tryz.ntmps94]
    repeat' (first | (with_reducible first | refine awp_seq ?_ | refine awp_blockS ?_ | refine awp_blockC ?_ | refine awp_blockR ?_ | refine awp_skip ?_ | refine awp_ret ?_ | refine awp_exit ?_ | refine awp_region ?_ | refine awp_condM ?_ | refine And.intro ?_ ?_ | apply gQ_merge | apply gE_merge | exact EqV_w | exact EqE_w | exact EqV_ptr | exact EqE_ptr | exact EqV_msl | exact EqE_msl | exact EqV_agg | exact EqE_agg | exact EqV_fn | exact EqE_fn | exact EqV_gd | exact EqE_gd | refine gM_splitN ?_ ?_ | refine gM_split ?_ ?_ |  refine condM_splitDN ?_ ?_ | refine condM_splitD ?_ ?_ | refine condM_splitN ?_ ?_ | refine condM_split ?_ ?_ | refine condM_any ?_ ?_ | refine cw (c1) ?_ | refine cw (c2) ?_ | intro _) | (simp [*, hcI]) | (refine cw_eq (c1) ?_ ?_; (· (simp [*]; done))) | (refine cw_eq (c2) ?_ ?_; (· (simp [*]; done))))
    all_goals try rfl
def linesS : List ByteArray → Option (List Line)
  | [] => some []
  | x :: r => match lineS x, linesS r with
    | some y, some l => some (y :: l)
    | _, _ => none
def sp1 : ByteArray := ⟨#[32]⟩
def readL (ws : List ByteArray) : Option Entry :=
  if ws.length < 2 ∨ Lib.containsS ws ⟨#[]⟩ = true then none else
    match numS (nth ws 0), linesS (ws.drop 2) with
    | some d, some l => some ⟨d, nth ws 1, l⟩
    | _, _ => none
theorem linesS_some : ∀ (ws : List ByteArray) (l : List Line), linesS ws = some l → l.length = ws.length ∧ ∀ k, k < l.length → lineS (nth ws k) = some (nth l k)
  | [], l, h => by
    simp only [linesS, Option.some.injEq] at h; subst h
    exact ⟨rfl, fun k hk => absurd hk (by simp)⟩
  | x :: r, l, h => by
    unfold linesS at h
    split at h
    · rename_i y l' h1 h2
      injection h with h; subst h
      obtain ⟨g1, g2⟩ := linesS_some r l' h2
      refine ⟨by simp [g1], fun k hk => ?_⟩
      cases k with
      | zero => simpa using h1
      | succ k => simpa using g2 k (by simpa using hk)
    · cases h
theorem linesS_none : ∀ (ws : List ByteArray), linesS ws = none → ∃ k, k < ws.length ∧ lineS (nth ws k) = none ∧ ∃ l, linesS (ws.take k) = some l
  | [], h => by simp [linesS] at h
  | x :: r, h => by
    cases hx : lineS x with
    | none => exact ⟨0, by simp, by simpa using hx, [], rfl⟩
    | some y =>
      cases hr : linesS r with
      | some l => unfold linesS at h; rw [hx, hr] at h; cases h
      | none =>
        obtain ⟨k, hk, h1, l, h2⟩ := linesS_none r hr
        exact ⟨k + 1, by simp; omega, by simpa using h1, y :: l, by simp [linesS, hx, h2]⟩
theorem read_some {s : ByteArray} {e : Entry} (hs : s.size < 900) (hp : ∀ x ∈ pieces s sp1, x.size < 1000) (hl : (pieces s sp1).length < 1000) (h : readL (pieces s sp1) = some e) : TextOk s e := by
  unfold readL at h
  split at h
  · cases h
  rename_i hc
  have h2 : 2 ≤ (pieces s sp1).length := by
    rcases Nat.lt_or_ge (pieces s sp1).length 2 with h1 | h1
    · exact absurd (.inl h1) hc
    · exact h1
  have hmem : ∀ k, k < (pieces s sp1).length → (nth (pieces s sp1) k).size < 1000 := fun k hk => hp _ (by
    simp [nth, List.getD_eq_getElem?_getD, List.getElem?_eq_getElem hk])
  split at h
  · rename_i d l h3 h4
    injection h with h; subst h
    obtain ⟨g1, g2⟩ := linesS_some _ _ h4
    rw [List.length_drop] at g1
    refine ⟨by omega, by show (pieces s sp1).length = _; dsimp only; omega, by dsimp only; omega, ?_, num_ok (hmem 0 (by omega)) h3, rfl, fun k hk => ?_⟩
    · cases hb : Lib.containsS (pieces s sp1) ⟨#[]⟩ with
      | false => exact hb
      | true => exact absurd (.inr hb) hc
    · dsimp only at hk ⊢
      have := g2 k hk
      rw [nth_drop] at this
      exact line_ok (hmem _ (by omega)) (by rw [Nat.add_comm] at this; exact this)
  · cases h
set_option maxHeartbeats 8000000 in
theorem read_bad (s : ByteArray) (hs : s.size < 900) (hp : ∀ x ∈ pieces s sp1, x.size < 1000) (hl : (pieces s sp1).length < 1000) (h : readL (pieces s sp1) = none) :
    ∃ (e : Entry) (t : ByteArray), RealCall Tryz.prog 48 [.str s] (.tup [.agg (cEntry e), errW t]) false := by
  have c1 : RealCall Tryz.prog 91 [.str s, .str ⟨#[32]⟩] (.sl (pieces s sp1).length (strP (pieces s sp1))) true := splitT_c s ⟨#[32]⟩ (by omega) (by decide)
  have c2 := contT_c (pieces s sp1) ⟨#[]⟩ (by omega)
  have hmem : ∀ k, k < (pieces s sp1).length → (nth (pieces s sp1) k).size < 1000 := fun k hk => hp _ (by
    simp [nth, List.getD_eq_getElem?_getD, List.getElem?_eq_getElem hk])
  clear hp
  generalize hw : pieces s sp1 = ws at *
  clear hw
  unfold readL at h
  by_cases h2 : ws.length < 2
  · refine ⟨⟨0, ⟨#[]⟩, []⟩, s, ?_⟩
    have h2I : (ws.length : Int) < 2 := by omega
    clear h hmem
    unfold cEntry
    refine realcall_intro Tryz.func48 (by kernel_rfl) rfl (Nat.le_of_ble_eq_true (by kernel_rfl)) ?_
    simp only [Tryz.results48, Tryz.ntmps48]
    repeat' (first | (with_reducible first | refine awp_seq ?_ | refine awp_blockS ?_ | refine awp_blockC ?_ | refine awp_blockR ?_ | refine awp_skip ?_ | refine awp_ret ?_ | refine awp_exit ?_ | refine awp_region ?_ | refine awp_condM ?_ | refine And.intro ?_ ?_ | apply gQ_merge | apply gE_merge | exact EqV_w | exact EqE_w | exact EqV_ptr | exact EqE_ptr | exact EqV_msl | exact EqE_msl | exact EqV_agg | exact EqE_agg | exact EqV_fn | exact EqE_fn | exact EqV_gd | exact EqE_gd | refine gM_splitN ?_ ?_ | refine gM_split ?_ ?_ |  refine condM_splitDN ?_ ?_ | refine condM_splitD ?_ ?_ | refine condM_splitN ?_ ?_ | refine condM_split ?_ ?_ | refine condM_any ?_ ?_ | refine cw (c1) ?_ | refine cw (c2) ?_ | intro _) | (simp [*, h2I, repl]) | (refine cw_eq (c1) ?_ ?_; (· (simp [*]; done))) | (refine cw_eq (c2) ?_ ?_; (· (simp [*]; done))))
    all_goals try rfl
  · have h2I : ¬ (ws.length : Int) < 2 := by omega
    cases hb : Lib.containsS ws ⟨#[]⟩ with
    | true =>
      refine ⟨⟨0, ⟨#[]⟩, []⟩, s, ?_⟩
      rw [hb] at c2
      clear h hmem hb
      unfold cEntry
      refine realcall_intro Tryz.func48 (by kernel_rfl) rfl (Nat.le_of_ble_eq_true (by kernel_rfl)) ?_
      simp only [Tryz.results48, Tryz.ntmps48]
      repeat' (first | (with_reducible first | refine awp_seq ?_ | refine awp_blockS ?_ | refine awp_blockC ?_ | refine awp_blockR ?_ | refine awp_skip ?_ | refine awp_ret ?_ | refine awp_exit ?_ | refine awp_region ?_ | refine awp_condM ?_ | refine And.intro ?_ ?_ | apply gQ_merge | apply gE_merge | exact EqV_w | exact EqE_w | exact EqV_ptr | exact EqE_ptr | exact EqV_msl | exact EqE_msl | exact EqV_agg | exact EqE_agg | exact EqV_fn | exact EqE_fn | exact EqV_gd | exact EqE_gd | refine gM_splitN ?_ ?_ | refine gM_split ?_ ?_ |  refine condM_splitDN ?_ ?_ | refine condM_splitD ?_ ?_ | refine condM_splitN ?_ ?_ | refine condM_split ?_ ?_ | refine condM_any ?_ ?_ | refine cw (c1) ?_ | refine cw (c2) ?_ | intro _) | (simp [*, h2I, repl]) | (refine cw_eq (c1) ?_ ?_; (· (simp [*]; done))) | (refine cw_eq (c2) ?_ ?_; (· (simp [*]; done))))
      all_goals try rfl
    | false =>
      rw [hb] at c2 h
      rw [if_neg (by simp; omega)] at h
      have g0 := strP_get ws 0 (by omega)
      have h0a : (0 : Int) < (ws.length : Int) := by omega
      have h0b : 0 < ws.length := by omega
      cases hn : numS (nth ws 0) with
      | none =>
        refine ⟨⟨0, ⟨#[]⟩, []⟩, nth ws 0, ?_⟩
        have c3 := number_bad _ (hmem 0 (by omega)) hn
        clear h hmem hb hn
        unfold cEntry
        refine realcall_intro Tryz.func48 (by kernel_rfl) rfl (Nat.le_of_ble_eq_true (by kernel_rfl)) ?_
        simp only [Tryz.results48, Tryz.ntmps48]
        repeat' (first | (with_reducible first | refine awp_nili (ow := false) (fl := false) (p := errW (nth ws 0)) (b := false) (r := true) rfl Tryz.underlying94 (by simp) rfl rfl (by decide) (by decide) ?_ | refine awp_seq ?_ | refine awp_blockS ?_ | refine awp_blockC ?_ | refine awp_blockR ?_ | refine awp_skip ?_ | refine awp_ret ?_ | refine awp_exit ?_ | refine awp_region ?_ | refine awp_condM ?_ | refine And.intro ?_ ?_ | apply gQ_merge | apply gE_merge | exact EqV_w | exact EqE_w | exact EqV_ptr | exact EqE_ptr | exact EqV_msl | exact EqE_msl | exact EqV_agg | exact EqE_agg | exact EqV_fn | exact EqE_fn | exact EqV_gd | exact EqE_gd | refine gM_splitN ?_ ?_ | refine gM_split ?_ ?_ |  refine condM_splitDN ?_ ?_ | refine condM_splitD ?_ ?_ | refine condM_splitN ?_ ?_ | refine condM_split ?_ ?_ | refine condM_any ?_ ?_ | refine cw (c1) ?_ | refine cw (c2) ?_ | refine cw (c3) ?_ | intro _) | (simp [*, h2I, g0, h0a, h0b, repl]) | (refine cw_eq (c1) ?_ ?_; (· (simp [*]; done))) | (refine cw_eq (c2) ?_ ?_; (· (simp [*]; done))) | (refine cw_eq (c3) ?_ ?_; (· (simp [*]; done))))
        all_goals try rfl
      | some ed =>
        rw [hn] at h
        have hno : linesS (ws.drop 2) = none := by
          cases hq : linesS (ws.drop 2) with
          | none => rfl
          | some l => rw [hq] at h; cases h
        obtain ⟨m, hm, hbad, el, hel⟩ := linesS_none _ hno
        rw [List.length_drop] at hm
        obtain ⟨q1, q2⟩ := linesS_some _ _ hel
        rw [take_len _ _ (by rw [List.length_drop]; omega)] at q1
        rw [nth_drop] at hbad
        subst q1
        obtain ⟨yb, tb, cb⟩ := lineOf_bad (nth ws (2 + el.length)) (hmem _ (by omega)) hbad
        refine ⟨⟨ed, nth ws 1, el⟩, tb, ?_⟩
        have c3 := number_ok _ _ (num_ok (hmem 0 (by omega)) hn)
        have hli : ∀ k, k < el.length → RealCall Tryz.prog 94 [.str (nth ws (2 + k))] (.tup [.agg (cLine (nth el k)), .nili]) true := fun k hk => by
          have := q2 k hk
          rw [nth_take _ _ _ (by omega), nth_drop] at this
          exact lineOf_ok _ _ (line_ok (hmem _ (by omega)) this)
        have g1 := strP_get ws 1 (by omega)
        generalize nth ws 1 = en at *
        have h1a : (1 : Int) < (ws.length : Int) := by omega
        have h1b : 1 < ws.length := by omega
        have h2a : (2 : Int) ≤ (ws.length : Int) := by omega
        have khli := keep hli
        have kcb := keep cb
        have hlt0 : el.length < ws.length - 2 := by omega
        clear h hmem hb hn hno hbad hel q2 hli cb
        unfold cEntry
        refine realcall_intro Tryz.func48 (by kernel_rfl) rfl (Nat.le_of_ble_eq_true (by kernel_rfl)) ?_
        simp only [Tryz.results48, Tryz.ntmps48]
        repeat' (first | (with_reducible first | refine awp_nili (ow := true) (fl := false) (p := .nili) (b := true) (r := false) rfl Tryz.underlying94 (by simp) rfl rfl (by decide) (by decide) ?_ | refine awp_seq ?_ | refine awp_blockS ?_ | refine awp_blockC ?_ | refine awp_blockR ?_ | refine awp_skip ?_ | refine awp_ret ?_ | refine awp_exit ?_ | refine awp_region ?_ | refine awp_condM ?_ | refine And.intro ?_ ?_ | apply gQ_merge | apply gE_merge | exact EqV_w | exact EqE_w | exact EqV_ptr | exact EqE_ptr | exact EqV_msl | exact EqE_msl | exact EqV_agg | exact EqE_agg | exact EqV_fn | exact EqE_fn | exact EqV_gd | exact EqE_gd | refine gM_splitN ?_ ?_ | refine gM_split ?_ ?_ |  refine condM_splitDN ?_ ?_ | refine condM_splitD ?_ ?_ | refine condM_splitN ?_ ?_ | refine condM_split ?_ ?_ | refine condM_any ?_ ?_ | refine cw (c1) ?_ | refine cw (c2) ?_ | refine cw (c3) ?_ | intro _) | (simp [*, h2I, g0, g1, h1a, h1b, h0a, h0b, h2a, repl]) | (refine cw_eq (c1) ?_ ?_; (· (simp [*]; done))) | (refine cw_eq (c2) ?_ ?_; (· (simp [*]; done))) | (refine cw_eq (c3) ?_ ?_; (· (simp [*]; done))))
        all_goals try rfl
        refine awp_for4 2 (fun (k : Nat) => k ≤ el.length) [2, 38, 39] (fun (k : Nat) => [(40, .w false false (.int .i64 k))]) [] (fun (k : Nat) => [(0, [.w false false (.int .i64 ed), .w false false (.str en), .msl 1 (k * 2) 2 0 k]), (1, lA (el.take k))]) (fun (k : Nat) => ws.length - k) (fun (_u : Unit) => False) [2] (fun (_u : Unit) => []) [] (fun (_u : Unit) => []) (0) (Nat.zero_le _) (le_gen [] (by simp) (by simp)) (fun k hk => ?_) (fun _u hf => ?_)
        · have hkw : k < ws.length - 2 := by omega
          have hkI : (k : Int) < ((ws.length - 2 : Nat) : Int) := by omega
          have g2 : nth (List.take (ws.length - 2) (List.drop 2 ws)) k = nth ws (2 + k) := by
            rw [nth_take _ _ _ hkw, nth_drop]
          by_cases hlt : k < el.length
          · have c4 := (show ∀ k, k < el.length → RealCall _ _ _ _ true from khli) k hlt
            have hs := take_succ_nth el k hlt
            have ks := keep hs.symm
            have htl := take_len el k hk
            clear hs khli kcb c1 c2 c3 g0 g1
            generalize nth el k = y at *
            obtain ⟨ya, yn⟩ := y
            unfold cLine at c4
            dsimp only at c4
            repeat' (first | (with_reducible first | refine awp_nili (ow := true) (fl := false) (p := .nili) (b := true) (r := false) rfl Tryz.underlying94 (by simp) rfl rfl (by decide) (by decide) ?_ | refine awp_seq ?_ | refine awp_blockS ?_ | refine awp_blockC ?_ | refine awp_blockR ?_ | refine awp_skip ?_ | refine awp_ret ?_ | refine awp_exit ?_ | refine awp_region ?_ | refine awp_condM ?_ | refine And.intro ?_ ?_ | apply gQ_merge | apply gE_merge | exact EqV_w | exact EqE_w | exact EqV_ptr | exact EqE_ptr | exact EqV_msl | exact EqE_msl | exact EqV_agg | exact EqE_agg | exact EqV_fn | exact EqE_fn | exact EqV_gd | exact EqE_gd | refine gM_splitN ?_ ?_ | refine gM_split ?_ ?_ |  refine condM_splitDN ?_ ?_ | refine condM_splitD ?_ ?_ | refine condM_splitN ?_ ?_ | refine condM_split ?_ ?_ | refine condM_any ?_ ?_ | refine cw (c4) ?_ | intro _) | (simp [*, hkw, hkI, htl, g2, Nat.add_mul]) | (refine cw_eq (c4) ?_ ?_; (· (simp [*]; done))))
            all_goals try rfl
            all_goals try first | exact inI64 (by omega) (by omega) | omega
            all_goals (refine loopK_normal _ _ _ _ _ (k + 1) _ ?_ (by first | omega | (dsimp only; omega) | (simp; omega)) ?_; (· omega); (refine le_gen [] ?_ ?_ <;> first | trivial | (simp [*, (show _ = List.take (k + 1) el from ks).symm, Nat.add_mul]; done)))
          · have hke : k = el.length := by omega
            subst hke
            have c4 := (show RealCall _ _ _ _ _ from kcb)
            clear khli kcb c1 c2 c3 g0 g1
            obtain ⟨ya, yn⟩ := yb
            unfold cLine at c4
            dsimp only at c4
            repeat' (first | (with_reducible first | refine awp_nili (ow := false) (fl := false) (p := errW tb) (b := false) (r := true) rfl Tryz.underlying94 (by simp) rfl rfl (by decide) (by decide) ?_ | refine awp_seq ?_ | refine awp_blockS ?_ | refine awp_blockC ?_ | refine awp_blockR ?_ | refine awp_skip ?_ | refine awp_ret ?_ | refine awp_exit ?_ | refine awp_region ?_ | refine awp_condM ?_ | refine And.intro ?_ ?_ | apply gQ_merge | apply gE_merge | exact EqV_w | exact EqE_w | exact EqV_ptr | exact EqE_ptr | exact EqV_msl | exact EqE_msl | exact EqV_agg | exact EqE_agg | exact EqV_fn | exact EqE_fn | exact EqV_gd | exact EqE_gd | refine gM_splitN ?_ ?_ | refine gM_split ?_ ?_ |  refine condM_splitDN ?_ ?_ | refine condM_splitD ?_ ?_ | refine condM_splitN ?_ ?_ | refine condM_split ?_ ?_ | refine condM_any ?_ ?_ | refine cw (c4) ?_ | intro _) | (simp [*, hkw, hkI, g2, Nat.add_mul, List.take_length]) | (refine cw_eq (c4) ?_ ?_; (· (simp [*]; done))))
            all_goals try rfl
            all_goals try first | exact inI64 (by omega) (by omega) | omega
        · exact hf.elim
end Go.Proofs.YtpjhpmpbdfeajaaGreatDoor
namespace Go.Proofs.YtpjhpmpbdfeajaaGreatDoor
open Go Go.Fi Go.RowKit
set_option maxRecDepth 20000

/-! ### ParseEntry, whatever the text -/
theorem parse_bad (s : ByteArray) (e : Entry) (t : ByteArray) (h : RealCall Tryz.prog 48 [.str s] (.tup [.agg (cEntry e), errW t]) false) : RealCall Tryz.prog 19 [.str s] (.tup [.agg (cEntry ⟨0, ⟨#[]⟩, []⟩), .int .i64 7]) true := by
  unfold cEntry errW at *
  refine realcall_intro Tryz.func19 (by kernel_rfl) rfl (Nat.le_of_ble_eq_true (by kernel_rfl)) ?_
  simp only [Tryz.results19, Tryz.ntmps19]
  repeat' (first | (with_reducible first | refine awp_as asC (s := t) (id := 2) (ow := false) (fl := false) (c0 := .w false false (.str ⟨#[]⟩)) (by kernel_rfl) (by simp) (by decide) (by decide) (by simp) (by simp) (by decide) (by decide) (by decide) ?_ | refine awp_seq ?_ | refine awp_blockS ?_ | refine awp_blockC ?_ | refine awp_blockR ?_ | refine awp_skip ?_ | refine awp_ret ?_ | refine awp_exit ?_ | refine awp_region ?_ | refine awp_condM ?_ | refine And.intro ?_ ?_ | apply gQ_merge | apply gE_merge | exact EqV_w | exact EqE_w | exact EqV_ptr | exact EqE_ptr | exact EqV_msl | exact EqE_msl | exact EqV_agg | exact EqE_agg | exact EqV_fn | exact EqE_fn | exact EqV_gd | exact EqE_gd | refine gM_splitN ?_ ?_ | refine gM_split ?_ ?_ |  refine condM_splitDN ?_ ?_ | refine condM_splitD ?_ ?_ | refine condM_splitN ?_ ?_ | refine condM_split ?_ ?_ | refine condM_any ?_ ?_ | refine cw (h) ?_ | intro _) | (simp [*, repl]) | (refine cw_eq (h) ?_ ?_; (· (simp [*]; done))))
  all_goals try rfl
def parseS (s : ByteArray) : Entry × Int := match readL (pieces s sp1) with
  | some e => (e, 0)
  | none => (⟨0, ⟨#[]⟩, []⟩, 7)
theorem parse_c (s : ByteArray) (hs : s.size < 900) (hp : ∀ x ∈ pieces s sp1, x.size < 1000) (hl : (pieces s sp1).length < 1000) : RealCall Tryz.prog 19 [.str s] (.tup [.agg (cEntry (parseS s).1), .int .i64 (parseS s).2]) true := by
  unfold parseS
  cases h : readL (pieces s sp1) with
  | some e => exact parse_ok s e (read_some hs hp hl h)
  | none =>
    obtain ⟨e, t, hr⟩ := read_bad s hs hp hl h
    exact parse_bad s e t hr
/-! ### the reference's decimals -/
theorem size_c (n : Int) (h0 : -1000000 ≤ n) (h1 : n ≤ 1000000) : RealCall Tryz.prog 99 [.int .i64 n] (.int .i64 n.natAbs) true := by
  have e : (if n < -n then -n else n) = ((n.natAbs : Nat) : Int) := by split <;> omega
  refine realcall_intro Tryz.func99 (by kernel_rfl) rfl (Nat.le_of_ble_eq_true (by kernel_rfl)) ?_
  simp only [Tryz.results99, Tryz.ntmps99]
  repeat' (first | (with_reducible first | refine awp_seq ?_ | refine awp_blockS ?_ | refine awp_blockC ?_ | refine awp_blockR ?_ | refine awp_skip ?_ | refine awp_ret ?_ | refine awp_exit ?_ | refine awp_region ?_ | refine awp_condM ?_ | refine And.intro ?_ ?_ | apply gQ_merge | apply gE_merge | exact EqV_w | exact EqE_w | exact EqV_ptr | exact EqE_ptr | exact EqV_msl | exact EqE_msl | exact EqV_agg | exact EqE_agg | exact EqV_fn | exact EqE_fn | exact EqV_gd | exact EqE_gd | refine gM_splitN ?_ ?_ | refine gM_split ?_ ?_ |  refine condM_splitDN ?_ ?_ | refine condM_splitD ?_ ?_ | refine condM_splitN ?_ ?_ | refine condM_split ?_ ?_ | refine condM_any ?_ ?_ | intro _) | (simp [*, e]))
  all_goals exact inI64 (by omega) (by omega)
def digs (u : Nat) : List UInt8 := if u = 0 then [] else Lib.decDigits u
theorem digs_step (u : Nat) (h : u ≠ 0) : digs u = digs (u / 10) ++ [UInt8.ofNat (48 + u % 10)] := by
  unfold digs
  rw [if_neg h]
  conv => lhs; unfold Lib.decDigits
  split
  · rename_i h1
    rw [if_pos (by omega), show u % 10 = u by omega]; rfl
  · rename_i h1
    rw [if_neg (by omega)]
theorem sgn_div (b : Bool) (u : Nat) : (sgn b u).tdiv 10 = sgn b (u / 10) := by
  cases b
  · rfl
  · show (-(u : Int)).tdiv 10 = -((u / 10 : Nat) : Int)
    rw [Int.neg_tdiv]; rfl
theorem sgn_mod (b : Bool) (u : Nat) : (sgn b u).tmod 10 = sgn b (u % 10) := by
  cases b
  · rfl
  · show (-(u : Int)).tmod 10 = -((u % 10 : Nat) : Int)
    rw [Int.neg_tmod]; rfl
theorem sgn_abs (b : Bool) (u : Nat) : (sgn b u).natAbs = u := by cases b <;> simp [sgn]
theorem sgn_zero (b : Bool) (u : Nat) : sgn b u = 0 ↔ u = 0 := by
  cases b
  · show ((u : Nat) : Int) = 0 ↔ _; omega
  · show -((u : Nat) : Int) = 0 ↔ _; omega
theorem dec_sgn (b : Bool) (u : Nat) (h : u ≠ 0) : dec (sgn b u) = (if b = true then (⟨#[45]⟩ : ByteArray) else ⟨#[]⟩) ++ ⟨(digs u).toArray⟩ := by
  refine ba_ext ?_
  unfold dec digs
  rw [if_neg h]
  cases b
  · show (Lib.itoa (u : Int)).toArray.toList = _
    rw [itoa_nn (by omega)]; simp
  · show (Lib.itoa (-(u : Int))).toArray.toList = _
    rw [itoa_neg (by omega)]; simp
set_option maxHeartbeats 4000000 in
theorem decimal_c (n : Int) (h0 : -9223372036854775808 ≤ n) (h1 : n ≤ 9223372036854775807) : RealCall Tryz.prog 53 [.int .i64 n] (.str (dec n)) true := by
  by_cases hz : n = 0
  · subst hz
    have e : dec 0 = ⟨#[48]⟩ := by decide +kernel
    rw [e]
    refine realcall_intro Tryz.func53 (by kernel_rfl) rfl (Nat.le_of_ble_eq_true (by kernel_rfl)) ?_
    simp only [Tryz.results53, Tryz.ntmps53]
    repeat' (first | (with_reducible first | refine awp_seq ?_ | refine awp_blockS ?_ | refine awp_blockC ?_ | refine awp_blockR ?_ | refine awp_skip ?_ | refine awp_ret ?_ | refine awp_exit ?_ | refine awp_region ?_ | refine awp_condM ?_ | refine And.intro ?_ ?_ | apply gQ_merge | apply gE_merge | exact EqV_w | exact EqE_w | exact EqV_ptr | exact EqE_ptr | exact EqV_msl | exact EqE_msl | exact EqV_agg | exact EqE_agg | exact EqV_fn | exact EqE_fn | exact EqV_gd | exact EqE_gd | refine gM_splitN ?_ ?_ | refine gM_split ?_ ?_ |  refine condM_splitDN ?_ ?_ | refine condM_splitD ?_ ?_ | refine condM_splitN ?_ ?_ | refine condM_split ?_ ?_ | refine condM_any ?_ ?_ | intro _) | (simp [*]))
  · obtain ⟨b, u, e⟩ : ∃ b u, n = sgn b u := ⟨decide (n < 0), n.natAbs, by unfold sgn; split <;> simp at * <;> omega⟩
    subst e
    have hu : u ≠ 0 := fun e => hz ((sgn_zero b u).2 e)
    have hub : u ≤ 9223372036854775808 := by have := sgn_abs b u; omega
    have hlt : decide (sgn b u < 0) = b := by
      cases b
      · show decide (((u : Nat) : Int) < 0) = false; exact decide_eq_false (by omega)
      · show decide (-((u : Nat) : Int) < 0) = true; exact decide_eq_true (by omega)
    have hdl : (digs u).length ≤ 20 := by
      unfold digs
      rw [if_neg hu, Lib.decDigits_length]
      exact Lib.nDigits_le20 u (by omega)
    have kd := keep (dec_sgn b u hu)
    generalize dec (sgn b u) = T at *
    have kz := keep hz
    clear hz h0 h1
    cases b
    · have g1 : ¬ sgn false u < 0 := of_decide_eq_false hlt
      refine realcall_intro Tryz.func53 (by kernel_rfl) rfl (Nat.le_of_ble_eq_true (by kernel_rfl)) ?_
      simp only [Tryz.results53, Tryz.ntmps53]
      repeat' (first | (with_reducible first | refine awp_seq ?_ | refine awp_blockS ?_ | refine awp_blockC ?_ | refine awp_blockR ?_ | refine awp_skip ?_ | refine awp_ret ?_ | refine awp_exit ?_ | refine awp_region ?_ | refine awp_condM ?_ | refine And.intro ?_ ?_ | apply gQ_merge | apply gE_merge | exact EqV_w | exact EqE_w | exact EqV_ptr | exact EqE_ptr | exact EqV_msl | exact EqE_msl | exact EqV_agg | exact EqE_agg | exact EqV_fn | exact EqE_fn | exact EqV_gd | exact EqE_gd | refine gM_splitN ?_ ?_ | refine gM_split ?_ ?_ |  refine condM_splitDN ?_ ?_ | refine condM_splitD ?_ ?_ | refine condM_splitN ?_ ?_ | refine condM_split ?_ ?_ | refine condM_any ?_ ?_ | intro _) | (simp [*, (show ¬ sgn false u = 0 from kz), g1]))
      refine awp_for4 0 (fun (x : Nat × ByteArray) => x.1 ≤ 9223372036854775808 ∧ digs x.1 ++ x.2.data.toList = digs u) [4] (fun (x : Nat × ByteArray) => [(0, .w false false (.int .i64 (sgn false x.1))), (3, .w false false (.str x.2))]) [] (fun (x : Nat × ByteArray) => []) (fun (x : Nat × ByteArray) => x.1) (fun (_u : Unit) => True) [4] (fun (_u : Unit) => [(3, .w false false (.str ⟨(digs u).toArray⟩))]) [] (fun (_u : Unit) => []) ((u, (⟨#[]⟩ : ByteArray))) ⟨hub, by simp⟩ (le_gen [] (by simp) (by simp)) (fun x hk => ?_) (fun _u hf => ?_)
      · obtain ⟨v, t⟩ := x
        obtain ⟨hv, hj⟩ := hk
        dsimp only at hv hj
        by_cases hv0 : v = 0
        · subst hv0
          have hj2 : t = ⟨(digs u).toArray⟩ := ba_ext (by rw [← hj]; simp [digs])
          have e0 : sgn false 0 = 0 := rfl
          clear hj
          subst hj2
          repeat' (first | (with_reducible first | refine awp_seq ?_ | refine awp_blockS ?_ | refine awp_blockC ?_ | refine awp_blockR ?_ | refine awp_skip ?_ | refine awp_ret ?_ | refine awp_exit ?_ | refine awp_region ?_ | refine awp_condM ?_ | refine And.intro ?_ ?_ | apply gQ_merge | apply gE_merge | exact EqV_w | exact EqE_w | exact EqV_ptr | exact EqE_ptr | exact EqV_msl | exact EqE_msl | exact EqV_agg | exact EqE_agg | exact EqV_fn | exact EqE_fn | exact EqV_gd | exact EqE_gd | refine gM_splitN ?_ ?_ | refine gM_split ?_ ?_ |  refine condM_splitDN ?_ ?_ | refine condM_splitD ?_ ?_ | refine condM_splitN ?_ ?_ | refine condM_split ?_ ?_ | refine condM_any ?_ ?_ | intro _) | (simp [*, e0]))
          all_goals (refine finW_intro () ?_ ?_; (· trivial); (refine le_gen [] ?_ ?_ <;> first | trivial | (simp [*]; done)))
        · have e1 : ¬ sgn false v = 0 := fun e => hv0 ((sgn_zero _ _).1 e)
          have e2 := sgn_div false v
          have e3 := sgn_mod false v
          have b1 : -922337203685477581 ≤ sgn false (v / 10) ∧ sgn false (v / 10) ≤ 922337203685477581 := by have := sgn_abs false (v / 10); omega
          have b2 : -9 ≤ sgn false (v % 10) ∧ sgn false (v % 10) ≤ 9 := by have := sgn_abs false (v % 10); omega
          have cs := size_c (sgn false (v % 10)) (by omega) (by omega)
          rw [sgn_abs] at cs
          have hm : v % 10 < 10 := Nat.mod_lt _ (by decide)
          have hj2 := hj
          rw [digs_step v hv0, List.append_assoc] at hj2
          have htl : t.size ≤ 20 := by
            have := congrArg List.length hj2
            simp only [List.length_append, List.length_cons] at this
            show t.data.size ≤ 20
            rw [← Array.length_toList]; omega
          have hby : (⟨#[UInt8.ofNat ((48 : Int) + ((v % 10 : Nat) : Int)).toNat]⟩ : ByteArray).size = 1 := rfl
          have kj := keep (show digs (v / 10) ++ ((⟨#[UInt8.ofNat ((48 : Int) + ((v % 10 : Nat) : Int)).toNat]⟩ : ByteArray) ++ t).data.toList = digs u by
            rw [← hj2]
            have : ((48 : Int) + ((v % 10 : Nat) : Int)).toNat = 48 + v % 10 := by omega
            rw [this]; simp)
          have kv := keep hv0
          have hvd : v / 10 < v := by omega
          clear hj hj2 hv0
          generalize sgn false v = nv at *
          generalize v % 10 = r at *
          generalize sgn false r = dv at *
          repeat' (first | (with_reducible first | refine awp_regionBk (id := 8) 5 (by decide) rfl (by kernel_rfl) ?_ | refine byteM_intro (by simp) rfl rfl rfl ?_ | refine awp_seq ?_ | refine awp_blockS ?_ | refine awp_blockC ?_ | refine awp_blockR ?_ | refine awp_skip ?_ | refine awp_ret ?_ | refine awp_exit ?_ | refine awp_region ?_ | refine awp_condM ?_ | refine And.intro ?_ ?_ | apply gQ_merge | apply gE_merge | exact EqV_w | exact EqE_w | exact EqV_ptr | exact EqE_ptr | exact EqV_msl | exact EqE_msl | exact EqV_agg | exact EqE_agg | exact EqV_fn | exact EqE_fn | exact EqV_gd | exact EqE_gd | refine gM_splitN ?_ ?_ | refine gM_split ?_ ?_ |  refine condM_splitDN ?_ ?_ | refine condM_splitD ?_ ?_ | refine condM_splitN ?_ ?_ | refine condM_split ?_ ?_ | refine condM_any ?_ ?_ | refine cw (cs) ?_ | intro _) | (simp [*, e1, e2, e3]) | (refine cw_eq (cs) ?_ ?_; (· (simp [*]; done))))
          all_goals try first | exact inI64 (by omega) (by omega) | omega | exact (show inI .u8 _ from ⟨by show (0 : Int) ≤ _; omega, by show _ ≤ (255 : Int); omega⟩)
          all_goals (refine loopK_normal _ _ _ _ _ (v / 10, (⟨#[UInt8.ofNat ((48 : Int) + (r : Int)).toNat]⟩ : ByteArray) ++ t) _ ?_ (by first | omega | (dsimp only; omega) | (simp; omega)) ?_; (· exact ⟨by omega, kj⟩); (refine le_gen [] ?_ ?_ <;> first | trivial | (simp [*]; done)))
      · repeat' (first | (with_reducible first | refine awp_seq ?_ | refine awp_blockS ?_ | refine awp_blockC ?_ | refine awp_blockR ?_ | refine awp_skip ?_ | refine awp_ret ?_ | refine awp_exit ?_ | refine awp_region ?_ | refine awp_condM ?_ | refine And.intro ?_ ?_ | apply gQ_merge | apply gE_merge | exact EqV_w | exact EqE_w | exact EqV_ptr | exact EqE_ptr | exact EqV_msl | exact EqE_msl | exact EqV_agg | exact EqE_agg | exact EqV_fn | exact EqE_fn | exact EqV_gd | exact EqE_gd | refine gM_splitN ?_ ?_ | refine gM_split ?_ ?_ |  refine condM_splitDN ?_ ?_ | refine condM_splitD ?_ ?_ | refine condM_splitN ?_ ?_ | refine condM_split ?_ ?_ | refine condM_any ?_ ?_ | intro _) | (simp [*]))
        all_goals first | exact (show T = _ from kd).symm | (have hz1 : (⟨(digs u).toArray⟩ : ByteArray).size = (digs u).length := List.size_toArray; have hz2 : (⟨#[45]⟩ : ByteArray).size = 1 := rfl; have hz3 : (⟨#[]⟩ : ByteArray).size = 0 := rfl; omega)
    · have g1 : sgn true u < 0 := of_decide_eq_true hlt
      refine realcall_intro Tryz.func53 (by kernel_rfl) rfl (Nat.le_of_ble_eq_true (by kernel_rfl)) ?_
      simp only [Tryz.results53, Tryz.ntmps53]
      repeat' (first | (with_reducible first | refine awp_seq ?_ | refine awp_blockS ?_ | refine awp_blockC ?_ | refine awp_blockR ?_ | refine awp_skip ?_ | refine awp_ret ?_ | refine awp_exit ?_ | refine awp_region ?_ | refine awp_condM ?_ | refine And.intro ?_ ?_ | apply gQ_merge | apply gE_merge | exact EqV_w | exact EqE_w | exact EqV_ptr | exact EqE_ptr | exact EqV_msl | exact EqE_msl | exact EqV_agg | exact EqE_agg | exact EqV_fn | exact EqE_fn | exact EqV_gd | exact EqE_gd | refine gM_splitN ?_ ?_ | refine gM_split ?_ ?_ |  refine condM_splitDN ?_ ?_ | refine condM_splitD ?_ ?_ | refine condM_splitN ?_ ?_ | refine condM_split ?_ ?_ | refine condM_any ?_ ?_ | intro _) | (simp [*, (show ¬ sgn true u = 0 from kz), g1]))
      refine awp_for4 0 (fun (x : Nat × ByteArray) => x.1 ≤ 9223372036854775808 ∧ digs x.1 ++ x.2.data.toList = digs u) [4] (fun (x : Nat × ByteArray) => [(0, .w false false (.int .i64 (sgn true x.1))), (3, .w false false (.str x.2))]) [] (fun (x : Nat × ByteArray) => []) (fun (x : Nat × ByteArray) => x.1) (fun (_u : Unit) => True) [4] (fun (_u : Unit) => [(3, .w false false (.str ⟨(digs u).toArray⟩))]) [] (fun (_u : Unit) => []) ((u, (⟨#[]⟩ : ByteArray))) ⟨hub, by simp⟩ (le_gen [] (by simp) (by simp)) (fun x hk => ?_) (fun _u hf => ?_)
      · obtain ⟨v, t⟩ := x
        obtain ⟨hv, hj⟩ := hk
        dsimp only at hv hj
        by_cases hv0 : v = 0
        · subst hv0
          have hj2 : t = ⟨(digs u).toArray⟩ := ba_ext (by rw [← hj]; simp [digs])
          have e0 : sgn true 0 = 0 := rfl
          clear hj
          subst hj2
          repeat' (first | (with_reducible first | refine awp_seq ?_ | refine awp_blockS ?_ | refine awp_blockC ?_ | refine awp_blockR ?_ | refine awp_skip ?_ | refine awp_ret ?_ | refine awp_exit ?_ | refine awp_region ?_ | refine awp_condM ?_ | refine And.intro ?_ ?_ | apply gQ_merge | apply gE_merge | exact EqV_w | exact EqE_w | exact EqV_ptr | exact EqE_ptr | exact EqV_msl | exact EqE_msl | exact EqV_agg | exact EqE_agg | exact EqV_fn | exact EqE_fn | exact EqV_gd | exact EqE_gd | refine gM_splitN ?_ ?_ | refine gM_split ?_ ?_ |  refine condM_splitDN ?_ ?_ | refine condM_splitD ?_ ?_ | refine condM_splitN ?_ ?_ | refine condM_split ?_ ?_ | refine condM_any ?_ ?_ | intro _) | (simp [*, e0]))
          all_goals (refine finW_intro () ?_ ?_; (· trivial); (refine le_gen [] ?_ ?_ <;> first | trivial | (simp [*]; done)))
        · have e1 : ¬ sgn true v = 0 := fun e => hv0 ((sgn_zero _ _).1 e)
          have e2 := sgn_div true v
          have e3 := sgn_mod true v
          have b1 : -922337203685477581 ≤ sgn true (v / 10) ∧ sgn true (v / 10) ≤ 922337203685477581 := by have := sgn_abs true (v / 10); omega
          have b2 : -9 ≤ sgn true (v % 10) ∧ sgn true (v % 10) ≤ 9 := by have := sgn_abs true (v % 10); omega
          have cs := size_c (sgn true (v % 10)) (by omega) (by omega)
          rw [sgn_abs] at cs
          have hm : v % 10 < 10 := Nat.mod_lt _ (by decide)
          have hj2 := hj
          rw [digs_step v hv0, List.append_assoc] at hj2
          have htl : t.size ≤ 20 := by
            have := congrArg List.length hj2
            simp only [List.length_append, List.length_cons] at this
            show t.data.size ≤ 20
            rw [← Array.length_toList]; omega
          have hby : (⟨#[UInt8.ofNat ((48 : Int) + ((v % 10 : Nat) : Int)).toNat]⟩ : ByteArray).size = 1 := rfl
          have kj := keep (show digs (v / 10) ++ ((⟨#[UInt8.ofNat ((48 : Int) + ((v % 10 : Nat) : Int)).toNat]⟩ : ByteArray) ++ t).data.toList = digs u by
            rw [← hj2]
            have : ((48 : Int) + ((v % 10 : Nat) : Int)).toNat = 48 + v % 10 := by omega
            rw [this]; simp)
          have kv := keep hv0
          have hvd : v / 10 < v := by omega
          clear hj hj2 hv0
          generalize sgn true v = nv at *
          generalize v % 10 = r at *
          generalize sgn true r = dv at *
          repeat' (first | (with_reducible first | refine awp_regionBk (id := 8) 5 (by decide) rfl (by kernel_rfl) ?_ | refine byteM_intro (by simp) rfl rfl rfl ?_ | refine awp_seq ?_ | refine awp_blockS ?_ | refine awp_blockC ?_ | refine awp_blockR ?_ | refine awp_skip ?_ | refine awp_ret ?_ | refine awp_exit ?_ | refine awp_region ?_ | refine awp_condM ?_ | refine And.intro ?_ ?_ | apply gQ_merge | apply gE_merge | exact EqV_w | exact EqE_w | exact EqV_ptr | exact EqE_ptr | exact EqV_msl | exact EqE_msl | exact EqV_agg | exact EqE_agg | exact EqV_fn | exact EqE_fn | exact EqV_gd | exact EqE_gd | refine gM_splitN ?_ ?_ | refine gM_split ?_ ?_ |  refine condM_splitDN ?_ ?_ | refine condM_splitD ?_ ?_ | refine condM_splitN ?_ ?_ | refine condM_split ?_ ?_ | refine condM_any ?_ ?_ | refine cw (cs) ?_ | intro _) | (simp [*, e1, e2, e3]) | (refine cw_eq (cs) ?_ ?_; (· (simp [*]; done))))
          all_goals try first | exact inI64 (by omega) (by omega) | omega | exact (show inI .u8 _ from ⟨by show (0 : Int) ≤ _; omega, by show _ ≤ (255 : Int); omega⟩)
          all_goals (refine loopK_normal _ _ _ _ _ (v / 10, (⟨#[UInt8.ofNat ((48 : Int) + (r : Int)).toNat]⟩ : ByteArray) ++ t) _ ?_ (by first | omega | (dsimp only; omega) | (simp; omega)) ?_; (· exact ⟨by omega, kj⟩); (refine le_gen [] ?_ ?_ <;> first | trivial | (simp [*]; done)))
      · repeat' (first | (with_reducible first | refine awp_seq ?_ | refine awp_blockS ?_ | refine awp_blockC ?_ | refine awp_blockR ?_ | refine awp_skip ?_ | refine awp_ret ?_ | refine awp_exit ?_ | refine awp_region ?_ | refine awp_condM ?_ | refine And.intro ?_ ?_ | apply gQ_merge | apply gE_merge | exact EqV_w | exact EqE_w | exact EqV_ptr | exact EqE_ptr | exact EqV_msl | exact EqE_msl | exact EqV_agg | exact EqE_agg | exact EqV_fn | exact EqE_fn | exact EqV_gd | exact EqE_gd | refine gM_splitN ?_ ?_ | refine gM_split ?_ ?_ |  refine condM_splitDN ?_ ?_ | refine condM_splitD ?_ ?_ | refine condM_splitN ?_ ?_ | refine condM_split ?_ ?_ | refine condM_any ?_ ?_ | intro _) | (simp [*]))
        all_goals first | exact (show T = _ from kd).symm | (have hz1 : (⟨(digs u).toArray⟩ : ByteArray).size = (digs u).length := List.size_toArray; have hz2 : (⟨#[45]⟩ : ByteArray).size = 1 := rfl; have hz3 : (⟨#[]⟩ : ByteArray).size = 0 := rfl; omega)
end Go.Proofs.YtpjhpmpbdfeajaaGreatDoor

