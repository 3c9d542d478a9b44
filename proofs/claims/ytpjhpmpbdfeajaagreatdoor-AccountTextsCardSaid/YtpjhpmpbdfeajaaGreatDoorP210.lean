/- Contracts of functions for this claim: lemmas alone. -/
import Derived.Test.YtpjhpmpbdfeajaaGreatDoorP208
import Derived.Test.YtpjhpmpbdfeajaaGreatDoorP26
import Derived.Test.YtpjhpmpbdfeajaaGreatDoorP29
import Derived.Test.YtpjhpmpbdfeajaaGreatDoorP32
set_option linter.unusedSimpArgs false
set_option linter.unusedVariables false
namespace Go.Proofs.YtpjhpmpbdfeajaaGreatDoor
open Go Go.Fi Go.RowKit
set_option maxRecDepth 20000

/-! ### names and numerals have no spaces -/
theorem okUpto_all (s : ByteArray) : ∀ n k, k < n → okUpto s n = true → okB k (byteAt s k) = true
  | 0, k, h, _ => by omega
  | n + 1, k, h, hn => by
    unfold okUpto at hn
    rw [Bool.and_eq_true] at hn
    by_cases e : k = n
    · subst e; exact hn.2
    · exact okUpto_all s n k (by omega) hn.1
theorem name_ok {s : ByteArray} (h : nameB s = true) : (∀ k, k < s.size → okB k (byteAt s k) = true) ∧ s.size ≠ 0 ∧ s.size ≤ 12 := by
  unfold nameB at h
  simp only [Bool.and_eq_true, decide_eq_true_eq] at h
  exact ⟨fun k hk => okUpto_all s _ k hk h.1.1, h.1.2, h.2⟩
theorem okB_sp (k : Nat) : okB k 32 = false := by unfold okB letterB; simp
theorem okB_eq (k : Nat) : okB k 61 = false := by unfold okB letterB; simp
theorem name_no {s : ByteArray} (h : nameB s = true) (c : UInt8) (hc : ∀ k, okB k c.toNat = false) : c ∉ s.data.toList := by
  intro hm
  obtain ⟨k, hk, e⟩ := List.getElem_of_mem hm
  have hk' : k < s.size := by rw [← ba_len]; exact hk
  have := (name_ok h).1 k hk'
  have e2 : byteAt s k = c.toNat := by
    unfold byteAt
    rw [List.getD_eq_getElem?_getD, List.getElem?_eq_getElem hk, e]; rfl
  rw [e2, hc] at this
  cases this
theorem name_ne {s : ByteArray} (h : nameB s = true) : s ≠ ⟨#[]⟩ := by
  intro e
  have := (name_ok h).2.1
  rw [e] at this; exact this rfl
theorem dig_no (u : Nat) (c : UInt8) (h : Lib.digitVal c = none) : c ∉ Lib.decDigits u := by
  intro hm
  obtain ⟨k, hk, e⟩ := List.getElem_of_mem hm
  obtain ⟨d, hd⟩ := Lib.digit_of_decFrom _ _ _ (decDigits_val u) k c (by rw [List.getElem?_eq_getElem hk, e])
  rw [h] at hd; cases hd
theorem dec_list (n : Int) : (dec n).data.toList = Lib.itoa n := by simp [dec]
theorem dec_no (n : Int) (c : UInt8) (h : Lib.digitVal c = none) (h2 : c ≠ 45) : c ∉ (dec n).data.toList := by
  rw [dec_list]
  by_cases hn : n < 0
  · rw [itoa_neg hn]
    intro hm
    rcases List.mem_cons.1 hm with e | e
    · exact h2 e
    · exact dig_no _ c h e
  · rw [itoa_nn hn]; exact dig_no _ c h
theorem itoa_ne (n : Int) : Lib.itoa n ≠ [] := by
  by_cases hn : n < 0
  · rw [itoa_neg hn]; simp
  · rw [itoa_nn hn]; exact decDigits_ne _
theorem dec_ne (n : Int) : dec n ≠ ⟨#[]⟩ := by
  intro e
  have := congrArg (fun b : ByteArray => b.data.toList) e
  simp only [dec_list] at this
  exact itoa_ne n this
theorem nDigits_le : ∀ (k u : Nat), u < 10 ^ (k + 1) → Lib.nDigits u ≤ k + 1
  | 0, u, h => by rw [Lib.nDigits_small (by simpa using h)]; omega
  | k + 1, u, h => by
    by_cases hu : u < 10
    · rw [Lib.nDigits_small hu]; omega
    · rw [Lib.nDigits_big hu]
      have := nDigits_le k (u / 10) (by
        rw [Nat.pow_succ] at h
        omega)
      omega
theorem num_dec (n : Int) (h0 : -1000000000 ≤ n) (h1 : n ≤ 1000000000) : numS (dec n) = some n := by
  unfold numS
  rw [dec_list]
  refine ref_itoa n ?_
  have key : ∀ u : Nat, u ≤ 1000000000 → (Lib.decDigits u).length ≤ 15 := fun u hu => by
    rw [Lib.decDigits_length]
    have := nDigits_le 14 u (by omega)
    omega
  by_cases hn : n < 0
  · rw [itoa_neg hn]
    exact key _ (by omega)
  · rw [itoa_nn hn]
    have e1 : ng (Lib.decDigits n.toNat) = false := decide_eq_false (dg_ne45 _)
    unfold ds; rw [e1]
    exact key _ (by omega)
theorem lineT_join (y : Line) : lineT y = joinB [y.acc, dec y.amt] ⟨#[61]⟩ := by
  have : [y.acc, dec y.amt] = [y.acc] ++ [dec y.amt] := rfl
  rw [this, joinB_snoc _ _ _ (by simp), joinB_one]; rfl
theorem line_back {y : Line} (hn : nameB y.acc = true) (h0 : -1000000000 ≤ y.amt) (h1 : y.amt ≤ 1000000000) : lineS (lineT y) = some y := by
  have hp : pieces (lineT y) ⟨#[61]⟩ = [y.acc, dec y.amt] := by
    rw [lineT_join]
    refine pieces_join 61 _ (by simp) (fun w hw => ?_)
    simp only [List.mem_cons, List.not_mem_nil, or_false] at hw
    rcases hw with rfl | rfl
    · exact name_no hn 61 okB_eq
    · exact dec_no _ 61 rfl (by decide)
  have hc : Lib.countByte (lineT y).data.toList 61 = 1 := by
    have := pieces_count (lineT y) 61
    rw [hp] at this
    simp only [List.length_cons, List.length_nil] at this
    omega
  have h2 := pieces_two (lineT y) 61 hc
  rw [hp] at h2
  injection h2 with e1 e2
  injection e2 with e2 _
  unfold lineS
  rw [← e1, ← e2, if_pos ⟨hc, name_ne hn⟩, num_dec _ h0 h1]; rfl
theorem lines_back : ∀ (l : List Line), (∀ y ∈ l, nameB y.acc = true ∧ -1000000000 ≤ y.amt ∧ y.amt ≤ 1000000000) → linesS (l.map lineT) = some l
  | [], _ => rfl
  | y :: r, h => by
    have hy := h y (by simp)
    rw [List.map_cons]
    unfold linesS
    rw [line_back hy.1 hy.2.1 hy.2.2, lines_back r (fun z hz => h z (List.mem_cons_of_mem _ hz))]
structure EntryR (e : Entry) : Prop where
  note : nameB e.note = true
  d0 : 0 ≤ e.date
  d1 : e.date ≤ 100000
  len : e.lines.length ≤ 12
  line : ∀ y ∈ e.lines, nameB y.acc = true ∧ -1000000000 ≤ y.amt ∧ y.amt ≤ 1000000000
theorem lineT_no {y : Line} (h : nameB y.acc = true) : (32 : UInt8) ∉ (lineT y).data.toList := by
  unfold lineT
  rw [ByteArray.data_append, ByteArray.data_append, Array.toList_append, Array.toList_append]
  simp only [List.mem_append, not_or]
  exact ⟨⟨name_no h 32 okB_sp, by decide⟩, dec_no _ 32 rfl (by decide)⟩
theorem lineT_ne (y : Line) : lineT y ≠ ⟨#[]⟩ := by
  intro e
  have := congrArg ByteArray.size e
  unfold lineT at this
  rw [ByteArray.size_append, ByteArray.size_append] at this
  have h1 : (⟨#[61]⟩ : ByteArray).size = 1 := rfl
  have h2 : (⟨#[]⟩ : ByteArray).size = 0 := rfl
  omega
theorem parse_back {e : Entry} (h : EntryR e) : parseS (formatS e) = (e, 0) := by
  have hw : wordsT e e.lines.length = dec e.date :: e.note :: e.lines.map lineT := by unfold wordsT; rw [List.take_length]
  have hp : pieces (formatS e) sp1 = wordsT e e.lines.length := pieces_join 32 _ (by rw [hw]; simp) (fun w hm => by
    rw [hw] at hm
    simp only [List.mem_cons] at hm
    rcases hm with rfl | rfl | hm
    · exact dec_no _ 32 rfl (by decide)
    · exact name_no h.note 32 okB_sp
    · obtain ⟨y, hy, rfl⟩ := List.mem_map.1 hm
      exact lineT_no (h.line y hy).1)
  unfold parseS
  rw [hp, hw]
  have hr : readL (dec e.date :: e.note :: e.lines.map lineT) = some e := by
    unfold readL
    rw [if_neg]
    · simp only [nth_zero, List.drop_succ_cons, List.drop_zero]
      rw [num_dec _ (by have := h.d0; omega) (by have := h.d1; omega), lines_back _ h.line]
      rfl
    · rintro (h1 | h1)
      · simp at h1; omega
      · rw [Lib.containsS_iff] at h1
        simp only [List.mem_cons] at h1
        rcases h1 with h1 | h1 | h1
        · exact dec_ne _ h1.symm
        · exact name_ne h.note h1.symm
        · obtain ⟨y, _, hy⟩ := List.mem_map.1 h1
          exact lineT_ne y hy
  rw [hr]
theorem format_size {e : Entry} (h : EntryR e) : (formatS e).size < 900 := by
  have := joinB_size ⟨#[32]⟩ 36 (wordsT e e.lines.length) (fun x hx => by
    unfold wordsT at hx
    rw [List.take_length] at hx
    simp only [List.mem_cons] at hx
    rcases hx with rfl | rfl | hx
    · have := dec_size (n := e.date) (by have := h.d0; omega) (by have := h.d1; omega); omega
    · have := (name_ok h.note).2.2; omega
    · obtain ⟨y, hy, rfl⟩ := List.mem_map.1 hx
      obtain ⟨a1, a2, a3⟩ := h.line y hy
      have b1 := (name_ok a1).2.2
      have b2 := dec_size (n := y.amt) (by omega) (by omega)
      unfold lineT
      rw [ByteArray.size_append, ByteArray.size_append]
      have h1 : (⟨#[61]⟩ : ByteArray).size = 1 := rfl
      omega)
  have h1 : (⟨#[32]⟩ : ByteArray).size = 1 := rfl
  rw [wordsT_len _ _ (Nat.le_refl _), h1] at this
  have := h.len
  unfold formatS
  have h3 : (e.lines.length + 2) * (36 + 1) ≤ 14 * 37 := Nat.mul_le_mul (by omega) (Nat.le_refl _)
  omega
/-! ### a right entry of right accounts -/
theorem accsF_zero : ∀ (l : List Acc) (r : List Acc) (i : Nat), (accsF l r i).2 = 0 → ∀ a ∈ r, nameB a.name = true
  | l, [], i, _, a, ha => by simp at ha
  | l, x :: r, i, h, a, ha => by
    unfold accsF at h
    split at h
    · rename_i hx
      rcases List.mem_cons.1 ha with rfl | ha
      · exact unless_zero (firstS_zero hx (errUnless (nameB a.name) 4) (by simp)) (by decide)
      · exact accsF_zero l r (i + 1) h a ha
    · rename_i hx; exact absurd h hx
theorem accsS_zero {l : List Acc} (h : (accsS l).2 = 0) : ∀ a ∈ l, nameB a.name = true := by
  unfold accsS at h
  split at h
  · cases h
  · split at h
    · cases h
    · exact accsF_zero l l 0 h
theorem entry_right {l : List Acc} {e : Entry} (h : (entryAllS l e).2 = 0) : EntryR e := by
  unfold entryAllS at h
  by_cases ha : (accsS l).2 = 0
  · rw [if_pos ha] at h
    obtain ⟨h1, h2⟩ := entryS_zero h
    obtain ⟨d0, d1, hn, _, hl⟩ := headE_zero h1
    refine ⟨hn, d0, d1, hl, fun y hy => ?_⟩
    obtain ⟨k, hk, rfl⟩ := mem_nth hy
    have h3 := h2 k hk
    have h4 := unless_zero (firstS_zero h3 (errUnless (hasS l (nth e.lines k).acc) 6) (by simp [lineE])) (by decide)
    have h5 := unless_zero (firstS_zero h3 (errUnless (smallB (nth e.lines k).amt 1000000000) 2) (by simp [lineE])) (by decide)
    unfold hasS at h4
    rw [List.any_eq_true] at h4
    obtain ⟨a, ha1, ha2⟩ := h4
    have ha3 : a.name = (nth e.lines k).acc := of_decide_eq_true ha2
    refine ⟨by rw [← ha3]; exact accsS_zero ha a ha1, ?_⟩
    simpa [smallB, winB] using h5
  · rw [if_neg ha] at h; exact absurd h ha
end Go.Proofs.YtpjhpmpbdfeajaaGreatDoor
namespace Go.Proofs.YtpjhpmpbdfeajaaGreatDoor
open Go Go.Fi
set_option maxRecDepth 20000

theorem entryErrT_c (l : List Acc) (hl : AccsIn l) (x : Entry) (hx : EntryIn x) : RealCall Tryz.prog 23 [.sl l.length (cAccs l), .agg (cEntry x)] (.int .i64 (entryAllS l x).2) true := by
  have c1 := rEntry_c l hl x hx
  unfold pairI at c1
  generalize entryAllS l x = q at *
  unfold cEntry at *
  refine realcall_intro Tryz.func23 (by kernel_rfl) rfl (Nat.le_of_ble_eq_true (by kernel_rfl)) ?_
  simp only [Tryz.results23, Tryz.ntmps23]
  repeat' (first | (with_reducible first | refine awp_seq ?_ | refine awp_blockS ?_ | refine awp_blockC ?_ | refine awp_blockR ?_ | refine awp_skip ?_ | refine awp_ret ?_ | refine awp_exit ?_ | refine awp_region ?_ | refine awp_condM ?_ | refine And.intro ?_ ?_ | apply gQ_merge | apply gE_merge | exact EqV_w | exact EqE_w | exact EqV_ptr | exact EqE_ptr | exact EqV_msl | exact EqE_msl | exact EqV_agg | exact EqE_agg | exact EqV_fn | exact EqE_fn | exact EqV_gd | exact EqE_gd | refine gM_splitN ?_ ?_ | refine gM_split ?_ ?_ |  refine condM_splitDN ?_ ?_ | refine condM_splitD ?_ ?_ | refine condM_splitN ?_ ?_ | refine condM_split ?_ ?_ | refine condM_any ?_ ?_ | refine cw (c1) ?_ | intro _) | (simp [*]) | (refine cw_eq (c1) ?_ ?_; (· (simp [*]; done))))
theorem shortB_accs {e : Entry} (h : shortB e = true) : ∀ k, k < e.lines.length → (nth e.lines k).acc.size < 1000000 := by
  intro k hk
  unfold shortB at h
  rw [Bool.and_eq_true] at h
  have := List.all_eq_true.1 h.2 _ (nth_mem e.lines k hk)
  have := of_decide_eq_true this
  omega
set_option maxHeartbeats 8000000 in
theorem accountTexts_c (l : List Acc) (x : Entry) (s : ByteArray) (hda : (-9223372036854775808 ≤ x.date ∧ x.date ≤ 9223372036854775807) ∧ ∀ y ∈ x.lines, -9223372036854775808 ≤ y.amt ∧ y.amt ≤ 9223372036854775807) :
    RealCall Tryz.prog 4 [.sl l.length (cAccs l), .agg (cEntry x), .str s] (.bool true) true := by
  obtain ⟨hd, ha⟩ := hda
  have c0 := awake_c
  have c1 := few_c l
  have c1' := short_c x
  cases h1 : fewB l with
  | false =>
    rw [h1] at c1
    unfold cEntry at *
    refine realcall_intro Tryz.func4 (by kernel_rfl) rfl (Nat.le_of_ble_eq_true (by kernel_rfl)) ?_
    simp only [Tryz.results4, Tryz.ntmps4]
    repeat' (first | (with_reducible first | refine awp_seq ?_ | refine awp_blockS ?_ | refine awp_blockC ?_ | refine awp_blockR ?_ | refine awp_skip ?_ | refine awp_ret ?_ | refine awp_exit ?_ | refine awp_region ?_ | refine awp_condM ?_ | refine And.intro ?_ ?_ | apply gQ_merge | apply gE_merge | exact EqV_w | exact EqE_w | exact EqV_ptr | exact EqE_ptr | exact EqV_msl | exact EqE_msl | exact EqV_agg | exact EqE_agg | exact EqV_fn | exact EqE_fn | exact EqV_gd | exact EqE_gd | refine gM_splitN ?_ ?_ | refine gM_split ?_ ?_ |  refine condM_splitDN ?_ ?_ | refine condM_splitD ?_ ?_ | refine condM_splitN ?_ ?_ | refine condM_split ?_ ?_ | refine condM_any ?_ ?_ | refine cw (c0) ?_ | refine cw (c1) ?_ | refine cw (c1') ?_ | intro _) | (simp [*]) | (refine cw_eq (c0) ?_ ?_; (· (simp [*]; done))) | (refine cw_eq (c1) ?_ ?_; (· (simp [*]; done))) | (refine cw_eq (c1') ?_ ?_; (· (simp [*]; done))))
  | true =>
    rw [h1] at c1
    cases h2 : shortB x with
    | false =>
      rw [h2] at c1'
      unfold cEntry at *
      refine realcall_intro Tryz.func4 (by kernel_rfl) rfl (Nat.le_of_ble_eq_true (by kernel_rfl)) ?_
      simp only [Tryz.results4, Tryz.ntmps4]
      repeat' (first | (with_reducible first | refine awp_seq ?_ | refine awp_blockS ?_ | refine awp_blockC ?_ | refine awp_blockR ?_ | refine awp_skip ?_ | refine awp_ret ?_ | refine awp_exit ?_ | refine awp_region ?_ | refine awp_condM ?_ | refine And.intro ?_ ?_ | apply gQ_merge | apply gE_merge | exact EqV_w | exact EqE_w | exact EqV_ptr | exact EqE_ptr | exact EqV_msl | exact EqE_msl | exact EqV_agg | exact EqE_agg | exact EqV_fn | exact EqE_fn | exact EqV_gd | exact EqE_gd | refine gM_splitN ?_ ?_ | refine gM_split ?_ ?_ |  refine condM_splitDN ?_ ?_ | refine condM_splitD ?_ ?_ | refine condM_splitN ?_ ?_ | refine condM_split ?_ ?_ | refine condM_any ?_ ?_ | refine cw (c0) ?_ | refine cw (c1) ?_ | refine cw (c1') ?_ | intro _) | (simp [*]) | (refine cw_eq (c0) ?_ ?_; (· (simp [*]; done))) | (refine cw_eq (c1) ?_ ?_; (· (simp [*]; done))) | (refine cw_eq (c1') ?_ ?_; (· (simp [*]; done))))
    | true =>
      rw [h2] at c1'
      by_cases h3 : 300 < s.size
      · have h3I : (300 : Int) < (s.size : Int) := by omega
        unfold cEntry at *
        refine realcall_intro Tryz.func4 (by kernel_rfl) rfl (Nat.le_of_ble_eq_true (by kernel_rfl)) ?_
        simp only [Tryz.results4, Tryz.ntmps4]
        repeat' (first | (with_reducible first | refine awp_seq ?_ | refine awp_blockS ?_ | refine awp_blockC ?_ | refine awp_blockR ?_ | refine awp_skip ?_ | refine awp_ret ?_ | refine awp_exit ?_ | refine awp_region ?_ | refine awp_condM ?_ | refine And.intro ?_ ?_ | apply gQ_merge | apply gE_merge | exact EqV_w | exact EqE_w | exact EqV_ptr | exact EqE_ptr | exact EqV_msl | exact EqE_msl | exact EqV_agg | exact EqE_agg | exact EqV_fn | exact EqE_fn | exact EqV_gd | exact EqE_gd | refine gM_splitN ?_ ?_ | refine gM_split ?_ ?_ |  refine condM_splitDN ?_ ?_ | refine condM_splitD ?_ ?_ | refine condM_splitN ?_ ?_ | refine condM_split ?_ ?_ | refine condM_any ?_ ?_ | refine cw (c0) ?_ | refine cw (c1) ?_ | refine cw (c1') ?_ | intro _) | (simp [*, h3I]) | (refine cw_eq (c0) ?_ ?_; (· (simp [*]; done))) | (refine cw_eq (c1) ?_ ?_; (· (simp [*]; done))) | (refine cw_eq (c1') ?_ ?_; (· (simp [*]; done))))
      · have h3I : ¬ (300 : Int) < (s.size : Int) := by omega
        have hl := fewB_in h1
        have hx := shortB_in h2
        have hT : EntryT x := ⟨hx.note, hx.len, shortB_accs h2, hd.1, hd.2, fun k hk => (ha _ (nth_mem _ k hk)).1, fun k hk => (ha _ (nth_mem _ k hk)).2⟩
        have c2 := copyEntry_c x (by have := hx.len; omega)
        have c3 := format_c x hT
        have c4 := rFormat_c x hT
        have hps := fun (t : ByteArray) (ht : t.size < 900) => parse_c t ht (fun y hy => by have := pieces_mem (c := 32) hy; omega) (by have : (pieces t sp1).length ≤ t.size + 1 := pieces_le t 32; omega)
        have c5 := hps s (by omega)
        have c6 := rParse_c s (by omega)
        have hpl : (parseS s).1.lines.length < 100000 := by
          unfold parseS
          split
          · rename_i e he
            have := (read_some (s := s) (by omega) (fun y hy => by have := pieces_mem (c := 32) hy; omega) (by have : (pieces s sp1).length ≤ s.size + 1 := pieces_le s 32; omega) he).lines
            show e.lines.length < _; omega
          · show 0 < 100000; omega
        have c7 := sameEntry_c (parseS s).1 hpl
        have c8 := entryErrT_c l hl x hx
        by_cases h4 : (entryAllS l x).2 = 0
        · have hr := entry_right h4
          have c9 := hps (formatS x) (format_size hr)
          rw [parse_back hr] at c9
          have c10 := sameEntry_c x (by have := hx.len; omega)
          rw [h4] at c8
          clear hps h1 h2 h3 hl hx hT hd ha h4 hr hpl
          dsimp only at c9
          generalize formatS x = t at *
          generalize parseS s = ps at *
          obtain ⟨⟨a1, a2, a3⟩, p2⟩ := ps
          unfold cEntry at *
          dsimp only at *
          refine realcall_intro Tryz.func4 (by kernel_rfl) rfl (Nat.le_of_ble_eq_true (by kernel_rfl)) ?_
          simp only [Tryz.results4, Tryz.ntmps4]
          repeat' (first | (with_reducible first | refine awp_seq ?_ | refine awp_blockS ?_ | refine awp_blockC ?_ | refine awp_blockR ?_ | refine awp_skip ?_ | refine awp_ret ?_ | refine awp_exit ?_ | refine awp_region ?_ | refine awp_condM ?_ | refine And.intro ?_ ?_ | apply gQ_merge | apply gE_merge | exact EqV_w | exact EqE_w | exact EqV_ptr | exact EqE_ptr | exact EqV_msl | exact EqE_msl | exact EqV_agg | exact EqE_agg | exact EqV_fn | exact EqE_fn | exact EqV_gd | exact EqE_gd | refine gM_splitN ?_ ?_ | refine gM_split ?_ ?_ |  refine condM_splitDN ?_ ?_ | refine condM_splitD ?_ ?_ | refine condM_splitN ?_ ?_ | refine condM_split ?_ ?_ | refine condM_any ?_ ?_ | refine cw (c0) ?_ | refine cw (c1) ?_ | refine cw (c1') ?_ | refine cw (c2) ?_ | refine cw (c3) ?_ | refine cw (c4) ?_ | refine cw (c5) ?_ | refine cw (c6) ?_ | refine cw (c7) ?_ | refine cw (c8) ?_ | refine cw (c9) ?_ | refine cw (c10) ?_ | intro _) | (simp [*, h3I]) | (refine cw_eq (c0) ?_ ?_; (· (simp [*]; done))) | (refine cw_eq (c1) ?_ ?_; (· (simp [*]; done))) | (refine cw_eq (c1') ?_ ?_; (· (simp [*]; done))) | (refine cw_eq (c2) ?_ ?_; (· (simp [*]; done))) | (refine cw_eq (c3) ?_ ?_; (· (simp [*]; done))) | (refine cw_eq (c4) ?_ ?_; (· (simp [*]; done))) | (refine cw_eq (c5) ?_ ?_; (· (simp [*]; done))) | (refine cw_eq (c6) ?_ ?_; (· (simp [*]; done))) | (refine cw_eq (c7) ?_ ?_; (· (simp [*]; done))) | (refine cw_eq (c8) ?_ ?_; (· (simp [*]; done))) | (refine cw_eq (c9) ?_ ?_; (· (simp [*]; done))) | (refine cw_eq (c10) ?_ ?_; (· (simp [*]; done))))
        · clear hps h1 h2 h3 hl hx hT hd ha hpl
          generalize (entryAllS l x).2 = z at *
          generalize formatS x = t at *
          generalize parseS s = ps at *
          obtain ⟨⟨a1, a2, a3⟩, p2⟩ := ps
          unfold cEntry at *
          dsimp only at *
          refine realcall_intro Tryz.func4 (by kernel_rfl) rfl (Nat.le_of_ble_eq_true (by kernel_rfl)) ?_
          simp only [Tryz.results4, Tryz.ntmps4]
          repeat' (first | (with_reducible first | refine awp_seq ?_ | refine awp_blockS ?_ | refine awp_blockC ?_ | refine awp_blockR ?_ | refine awp_skip ?_ | refine awp_ret ?_ | refine awp_exit ?_ | refine awp_region ?_ | refine awp_condM ?_ | refine And.intro ?_ ?_ | apply gQ_merge | apply gE_merge | exact EqV_w | exact EqE_w | exact EqV_ptr | exact EqE_ptr | exact EqV_msl | exact EqE_msl | exact EqV_agg | exact EqE_agg | exact EqV_fn | exact EqE_fn | exact EqV_gd | exact EqE_gd | refine gM_splitN ?_ ?_ | refine gM_split ?_ ?_ |  refine condM_splitDN ?_ ?_ | refine condM_splitD ?_ ?_ | refine condM_splitN ?_ ?_ | refine condM_split ?_ ?_ | refine condM_any ?_ ?_ | refine cw (c0) ?_ | refine cw (c1) ?_ | refine cw (c1') ?_ | refine cw (c2) ?_ | refine cw (c3) ?_ | refine cw (c4) ?_ | refine cw (c5) ?_ | refine cw (c6) ?_ | refine cw (c7) ?_ | refine cw (c8) ?_ | intro _) | (simp [*, h3I, h4]) | (refine cw_eq (c0) ?_ ?_; (· (simp [*]; done))) | (refine cw_eq (c1) ?_ ?_; (· (simp [*]; done))) | (refine cw_eq (c1') ?_ ?_; (· (simp [*]; done))) | (refine cw_eq (c2) ?_ ?_; (· (simp [*]; done))) | (refine cw_eq (c3) ?_ ?_; (· (simp [*]; done))) | (refine cw_eq (c4) ?_ ?_; (· (simp [*]; done))) | (refine cw_eq (c5) ?_ ?_; (· (simp [*]; done))) | (refine cw_eq (c6) ?_ ?_; (· (simp [*]; done))) | (refine cw_eq (c7) ?_ ?_; (· (simp [*]; done))) | (refine cw_eq (c8) ?_ ?_; (· (simp [*]; done))))
end Go.Proofs.YtpjhpmpbdfeajaaGreatDoor

