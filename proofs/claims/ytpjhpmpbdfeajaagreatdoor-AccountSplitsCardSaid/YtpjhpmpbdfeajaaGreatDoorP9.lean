/- Contracts of functions for this claim: lemmas alone. -/
import Derived.Test.YtpjhpmpbdfeajaaGreatDoorP7
import Derived.Test.YtpjhpmpbdfeajaaGreatDoorP3
import Derived.Test.YtpjhpmpbdfeajaaGreatDoorLr
import Derived.Test.YtpjhpmpbdfeajaaGreatDoorP10
set_option linter.unusedSimpArgs false
set_option linter.unusedVariables false
namespace Go.Proofs.YtpjhpmpbdfeajaaGreatDoor
open Go Go.Fi
set_option maxRecDepth 20000

/-! ### reading texts that are right -/
structure NumOk (s : ByteArray) (v : Int) : Prop where
  size : s.size < 1000
  atoi : Lib.atoiAll s.data.toList = .ok v
  lo : -9223372036854775808 ≤ v
  hi : v ≤ 9223372036854775807
  text : dec v = s
  short : (Lib.trimPrefix s.data.toList [45]).length ≤ 15
set_option maxHeartbeats 4000000 in
theorem number_ok (s : ByteArray) (v : Int) (h : NumOk s v) : RealCall Tryz.prog 93 [.str s] (.tup [.int .i64 v, .nili]) true := by
  have c1 := atoi_c s (by have := h.size; omega) v h.atoi
  have c2 := itoa_c v h.lo h.hi
  rw [h.text] at c2
  have c3 := trimP_c s ⟨#[45]⟩
  have e : (⟨#[45]⟩ : ByteArray).data.toList = [45] := rfl
  rw [e] at c3
  have hs : ¬ (15 : Int) < ((⟨(Lib.trimPrefix s.data.toList [45]).toArray⟩ : ByteArray).size : Int) := by
    have := h.short
    show ¬ (15 : Int) < (((Lib.trimPrefix s.data.toList [45]).toArray.size : Nat) : Int)
    rw [List.size_toArray]; omega
  clear h e
  generalize (⟨(Lib.trimPrefix s.data.toList [45]).toArray⟩ : ByteArray) = q at *
  refine realcall_intro Tryz.func93 (by kernel_rfl) rfl (Nat.le_of_ble_eq_true (by kernel_rfl)) ?_
  simp only [Tryz.results93, Tryz.ntmps93]
  repeat' (first | (with_reducible first | refine awp_nili (ow := true) (fl := false) (p := .nili) (b := true) (r := false) rfl Tryz.underlying94 (by simp) rfl rfl (by decide) (by decide) ?_ | refine awp_seq ?_ | refine awp_blockS ?_ | refine awp_blockC ?_ | refine awp_blockR ?_ | refine awp_skip ?_ | refine awp_ret ?_ | refine awp_exit ?_ | refine awp_region ?_ | refine awp_condM ?_ | refine And.intro ?_ ?_ | apply gQ_merge | apply gE_merge | exact EqV_w | exact EqE_w | exact EqV_ptr | exact EqE_ptr | exact EqV_msl | exact EqE_msl | exact EqV_agg | exact EqE_agg | exact EqV_fn | exact EqE_fn | exact EqV_gd | exact EqE_gd | refine gM_splitN ?_ ?_ | refine gM_split ?_ ?_ |  refine condM_splitDN ?_ ?_ | refine condM_splitD ?_ ?_ | refine condM_splitN ?_ ?_ | refine condM_split ?_ ?_ | refine condM_any ?_ ?_ | refine cw (c1) ?_ | refine cw (c2) ?_ | refine cw (c3) ?_ | intro _) | (simp [*]) | (refine cw_eq (c1) ?_ ?_; (· (simp [*]; done))) | (refine cw_eq (c2) ?_ ?_; (· (simp [*]; done))) | (refine cw_eq (c3) ?_ ?_; (· (simp [*]; done))))
structure LineOk (s : ByteArray) (y : Line) : Prop where
  size : s.size < 1000
  count : Lib.countByte s.data.toList 61 = 1
  ne : y.acc ≠ ⟨#[]⟩
  cut : ∃ amt, NumOk amt y.amt ∧ (⟨(Lib.cut s.data.toList [61]).1.toArray⟩ : ByteArray) = y.acc ∧ (⟨(Lib.cut s.data.toList [61]).2.1.toArray⟩ : ByteArray) = amt
set_option maxHeartbeats 4000000 in
theorem lineOf_ok (s : ByteArray) (y : Line) (h : LineOk s y) : RealCall Tryz.prog 94 [.str s] (.tup [.agg (cLine y), .nili]) true := by
  obtain ⟨amt, hn, e1, e2⟩ := h.cut
  have c1 := cut_c s ⟨#[61]⟩ (by have := h.size; omega)
  have e : (⟨#[61]⟩ : ByteArray).data.toList = [61] := rfl
  rw [e, e1, e2] at c1
  have c2 := count_c s 61
  rw [h.count] at c2
  have c3 := number_ok amt y.amt hn
  have hne := h.ne
  generalize (Lib.cut s.data.toList [61]).2.2 = b at *
  clear e e1 e2 hn h
  obtain ⟨ya, yn⟩ := y
  dsimp only at *
  unfold cLine
  refine realcall_intro Tryz.func94 (by kernel_rfl) rfl (Nat.le_of_ble_eq_true (by kernel_rfl)) ?_
  simp only [Tryz.results94, Tryz.ntmps94]
  repeat' (first | (with_reducible first | refine awp_seq ?_ | refine awp_blockS ?_ | refine awp_blockC ?_ | refine awp_blockR ?_ | refine awp_skip ?_ | refine awp_ret ?_ | refine awp_exit ?_ | refine awp_region ?_ | refine awp_condM ?_ | refine And.intro ?_ ?_ | apply gQ_merge | apply gE_merge | exact EqV_w | exact EqE_w | exact EqV_ptr | exact EqE_ptr | exact EqV_msl | exact EqE_msl | exact EqV_agg | exact EqE_agg | exact EqV_fn | exact EqE_fn | exact EqV_gd | exact EqE_gd | refine gM_splitN ?_ ?_ | refine gM_split ?_ ?_ |  refine condM_splitDN ?_ ?_ | refine condM_splitD ?_ ?_ | refine condM_splitN ?_ ?_ | refine condM_split ?_ ?_ | refine condM_any ?_ ?_ | refine cw (c1) ?_ | refine cw (c2) ?_ | refine cw (c3) ?_ | intro _) | (simp [*, hne, repl]) | (refine cw_eq (c1) ?_ ?_; (· (simp [*]; done))) | (refine cw_eq (c2) ?_ ?_; (· (simp [*]; done))) | (refine cw_eq (c3) ?_ ?_; (· (simp [*]; done))))
theorem as_nil (p : PV) : RealCall Tryz.prog 49 [.nili, p] (.bool false) true := by
  refine realcall_intro Tryz.func49 (by kernel_rfl) rfl (Nat.le_of_ble_eq_true (by kernel_rfl)) ?_
  simp only [Tryz.results49, Tryz.ntmps49]
  repeat' (first | (with_reducible first | refine awp_nili (ow := false) (fl := false) (p := .nili) (b := true) (r := true) rfl Tryz.underlying94 (by simp) rfl rfl (by decide) (by decide) ?_ | refine awp_seq ?_ | refine awp_blockS ?_ | refine awp_blockC ?_ | refine awp_blockR ?_ | refine awp_skip ?_ | refine awp_ret ?_ | refine awp_exit ?_ | refine awp_region ?_ | refine awp_condM ?_ | refine And.intro ?_ ?_ | apply gQ_merge | apply gE_merge | exact EqV_w | exact EqE_w | exact EqV_ptr | exact EqE_ptr | exact EqV_msl | exact EqE_msl | exact EqV_agg | exact EqE_agg | exact EqV_fn | exact EqE_fn | exact EqV_gd | exact EqE_gd | refine gM_splitN ?_ ?_ | refine gM_split ?_ ?_ |  refine condM_splitDN ?_ ?_ | refine condM_splitD ?_ ?_ | refine condM_splitN ?_ ?_ | refine condM_split ?_ ?_ | refine condM_any ?_ ?_ | intro _) | (simp [*]))
end Go.Proofs.YtpjhpmpbdfeajaaGreatDoor
namespace Go.Proofs.YtpjhpmpbdfeajaaGreatDoor
open Go Go.Fi
set_option maxRecDepth 20000

structure TextOk (s : ByteArray) (e : Entry) : Prop where
  size : s.size < 1000000
  len : (pieces s ⟨#[32]⟩).length = e.lines.length + 2
  lines : e.lines.length < 1000
  full : Lib.containsS (pieces s ⟨#[32]⟩) ⟨#[]⟩ = false
  date : NumOk (nth (pieces s ⟨#[32]⟩) 0) e.date
  note : nth (pieces s ⟨#[32]⟩) 1 = e.note
  line : ∀ k, k < e.lines.length → LineOk (nth (pieces s ⟨#[32]⟩) (k + 2)) (nth e.lines k)
theorem nth_take {α : Type} [Inhabited α] (l : List α) (i k : Nat) (h : k < i) : nth (l.take i) k = nth l k := by
  simp [nth, List.getD_eq_getElem?_getD, List.getElem?_take, h]
theorem nth_drop {α : Type} [Inhabited α] (l : List α) (i k : Nat) : nth (l.drop i) k = nth l (i + k) := by
  simp [nth, List.getD_eq_getElem?_getD, List.getElem?_drop]
set_option maxHeartbeats 8000000 in
theorem read_ok (s : ByteArray) (e : Entry) (h : TextOk s e) : RealCall Tryz.prog 48 [.str s] (.tup [.agg (cEntry e), .nili]) true := by
  have c1 := splitT_c s ⟨#[32]⟩ (by have := h.size; omega) (by decide)
  have hl := h.len
  have hll := h.lines
  have c2 := contT_c (pieces s ⟨#[32]⟩) ⟨#[]⟩ (by omega)
  rw [h.full] at c2
  have c3 := number_ok _ _ h.date
  have hno := h.note
  have hli := fun k hk => lineOf_ok _ _ (h.line k hk)
  clear h
  generalize hw : pieces s ⟨#[32]⟩ = ws at *
  clear hw
  obtain ⟨ed, en, el⟩ := e
  dsimp only at *
  have g0 := strP_get ws 0 (by omega)
  have g1 := strP_get ws 1 (by omega)
  have hsub : ws.length - 2 = el.length := by omega
  have h2 : ¬ (ws.length : Int) < 2 := by omega
  have h1a : (1 : Int) < (ws.length : Int) := by omega
  have h1b : 1 < ws.length := by omega
  have h0a : (0 : Int) < (ws.length : Int) := by omega
  have h0b : 0 < ws.length := by omega
  have h2a : (2 : Int) ≤ (ws.length : Int) := by omega
  have khli := keep hli
  clear hli
  rw [hno] at g1
  clear hno
  have khl := keep hl
  clear hl
  refine realcall_intro Tryz.func48 (by kernel_rfl) rfl (Nat.le_of_ble_eq_true (by kernel_rfl)) ?_
  simp only [Tryz.results48, Tryz.ntmps48]
  repeat' (first | (with_reducible first | refine awp_nili (ow := true) (fl := false) (p := .nili) (b := true) (r := false) rfl Tryz.underlying94 (by simp) rfl rfl (by decide) (by decide) ?_ | refine awp_seq ?_ | refine awp_blockS ?_ | refine awp_blockC ?_ | refine awp_blockR ?_ | refine awp_skip ?_ | refine awp_ret ?_ | refine awp_exit ?_ | refine awp_region ?_ | refine awp_condM ?_ | refine And.intro ?_ ?_ | apply gQ_merge | apply gE_merge | exact EqV_w | exact EqE_w | exact EqV_ptr | exact EqE_ptr | exact EqV_msl | exact EqE_msl | exact EqV_agg | exact EqE_agg | exact EqV_fn | exact EqE_fn | exact EqV_gd | exact EqE_gd | refine gM_splitN ?_ ?_ | refine gM_split ?_ ?_ |  refine condM_splitDN ?_ ?_ | refine condM_splitD ?_ ?_ | refine condM_splitN ?_ ?_ | refine condM_split ?_ ?_ | refine condM_any ?_ ?_ | refine cw (c1) ?_ | refine cw (c2) ?_ | refine cw (c3) ?_ | intro _) | (simp [*, h2, g0, g1, h1a, h1b, h0a, h0b, h2a, hsub, repl]) | (refine cw_eq (c1) ?_ ?_; (· (simp [*]; done))) | (refine cw_eq (c2) ?_ ?_; (· (simp [*]; done))) | (refine cw_eq (c3) ?_ ?_; (· (simp [*]; done))))
  refine awp_for4 2 (fun (k : Nat) => k ≤ el.length) [2, 38, 39] (fun (k : Nat) => [(40, .w false false (.int .i64 k))]) [] (fun (k : Nat) => [(0, [.w false false (.int .i64 ed), .w false false (.str en), .msl 1 (k * 2) 2 0 k]), (1, lA (el.take k))]) (fun (k : Nat) => el.length - k) (fun (_u : Unit) => True) [2] (fun (_u : Unit) => []) [] (fun (_u : Unit) => [(0, [.w false false (.int .i64 ed), .w false false (.str en), .msl 1 (el.length * 2) 2 0 el.length]), (1, lA el)]) (0) (Nat.zero_le _) (le_gen [] (by simp) (by simp)) (fun k hk => ?_) (fun _u hf => ?_)
  · by_cases hlt : k < el.length
    · have c4 := (show ∀ k, k < el.length → RealCall _ _ _ _ true from khli) k hlt
      have hl := (show ws.length = el.length + 2 from khl)
      have g2 : nth (List.take el.length (List.drop 2 ws)) k = nth ws (k + 2) := by
        rw [nth_take _ _ _ hlt, nth_drop, Nat.add_comm]
      clear hl
      have hs := take_succ_nth el k hlt
      have ks := keep hs.symm
      have htl := take_len el k hk
      clear hs khli c1 c2 c3 g0 g1
      generalize hy : nth el k = y at *
      obtain ⟨ya, yn⟩ := y
      unfold cLine at c4
      dsimp only at c4
      repeat' (first | (with_reducible first | refine awp_nili (ow := true) (fl := false) (p := .nili) (b := true) (r := false) rfl Tryz.underlying94 (by simp) rfl rfl (by decide) (by decide) ?_ | refine awp_seq ?_ | refine awp_blockS ?_ | refine awp_blockC ?_ | refine awp_blockR ?_ | refine awp_skip ?_ | refine awp_ret ?_ | refine awp_exit ?_ | refine awp_region ?_ | refine awp_condM ?_ | refine And.intro ?_ ?_ | apply gQ_merge | apply gE_merge | exact EqV_w | exact EqE_w | exact EqV_ptr | exact EqE_ptr | exact EqV_msl | exact EqE_msl | exact EqV_agg | exact EqE_agg | exact EqV_fn | exact EqE_fn | exact EqV_gd | exact EqE_gd | refine gM_splitN ?_ ?_ | refine gM_split ?_ ?_ |  refine condM_splitDN ?_ ?_ | refine condM_splitD ?_ ?_ | refine condM_splitN ?_ ?_ | refine condM_split ?_ ?_ | refine condM_any ?_ ?_ | refine cw (c4) ?_ | intro _) | (simp [*, hlt, htl, g2, Nat.add_mul]) | (refine cw_eq (c4) ?_ ?_; (· (simp [*]; done))))
      all_goals try first | exact inI64 (by omega) (by omega) | omega
      all_goals (refine loopK_normal _ _ _ _ _ (k + 1) _ ?_ (by first | omega | (dsimp only; omega) | (simp; omega)) ?_; (· omega); (refine le_gen [] ?_ ?_ <;> first | trivial | (simp [*, (show _ = List.take (k + 1) el from ks).symm, Nat.add_mul]; done)))
    · have hke : k = el.length := by omega
      subst hke
      clear khli
      repeat' (first | (with_reducible first | refine awp_seq ?_ | refine awp_blockS ?_ | refine awp_blockC ?_ | refine awp_blockR ?_ | refine awp_skip ?_ | refine awp_ret ?_ | refine awp_exit ?_ | refine awp_region ?_ | refine awp_condM ?_ | refine And.intro ?_ ?_ | apply gQ_merge | apply gE_merge | exact EqV_w | exact EqE_w | exact EqV_ptr | exact EqE_ptr | exact EqV_msl | exact EqE_msl | exact EqV_agg | exact EqE_agg | exact EqV_fn | exact EqE_fn | exact EqV_gd | exact EqE_gd | refine gM_splitN ?_ ?_ | refine gM_split ?_ ?_ |  refine condM_splitDN ?_ ?_ | refine condM_splitD ?_ ?_ | refine condM_splitN ?_ ?_ | refine condM_split ?_ ?_ | refine condM_any ?_ ?_ | intro _) | (simp [*]))
      all_goals (refine finW_intro () ?_ ?_; (· trivial); (refine le_gen [] ?_ ?_ <;> first | trivial | (simp [*, List.take_length]; done)))
  · clear khli
    repeat' (first | (with_reducible first | refine awp_seq ?_ | refine awp_blockS ?_ | refine awp_blockC ?_ | refine awp_blockR ?_ | refine awp_skip ?_ | refine awp_ret ?_ | refine awp_exit ?_ | refine awp_region ?_ | refine awp_condM ?_ | refine And.intro ?_ ?_ | apply gQ_merge | apply gE_merge | exact EqV_w | exact EqE_w | exact EqV_ptr | exact EqE_ptr | exact EqV_msl | exact EqE_msl | exact EqV_agg | exact EqE_agg | exact EqV_fn | exact EqE_fn | exact EqV_gd | exact EqE_gd | refine gM_splitN ?_ ?_ | refine gM_split ?_ ?_ |  refine condM_splitDN ?_ ?_ | refine condM_splitD ?_ ?_ | refine condM_splitN ?_ ?_ | refine condM_split ?_ ?_ | refine condM_any ?_ ?_ | intro _) | (simp [*]))
    all_goals rfl
end Go.Proofs.YtpjhpmpbdfeajaaGreatDoor
namespace Go.Proofs.YtpjhpmpbdfeajaaGreatDoor
open Go Go.Fi
set_option maxRecDepth 20000

theorem parse_ok (s : ByteArray) (e : Entry) (h : TextOk s e) : RealCall Tryz.prog 19 [.str s] (.tup [.agg (cEntry e), .int .i64 0]) true := by
  have c1 := read_ok s e h
  clear h
  unfold cEntry at *
  refine realcall_intro Tryz.func19 (by kernel_rfl) rfl (Nat.le_of_ble_eq_true (by kernel_rfl)) ?_
  simp only [Tryz.results19, Tryz.ntmps19]
  repeat' (first | (with_reducible first | refine awp_seq ?_ | refine awp_blockS ?_ | refine awp_blockC ?_ | refine awp_blockR ?_ | refine awp_skip ?_ | refine awp_ret ?_ | refine awp_exit ?_ | refine awp_region ?_ | refine awp_condM ?_ | refine And.intro ?_ ?_ | apply gQ_merge | apply gE_merge | exact EqV_w | exact EqE_w | exact EqV_ptr | exact EqE_ptr | exact EqV_msl | exact EqE_msl | exact EqV_agg | exact EqE_agg | exact EqV_fn | exact EqE_fn | exact EqV_gd | exact EqE_gd | refine gM_splitN ?_ ?_ | refine gM_split ?_ ?_ |  refine condM_splitDN ?_ ?_ | refine condM_splitD ?_ ?_ | refine condM_splitN ?_ ?_ | refine condM_split ?_ ?_ | refine condM_any ?_ ?_ | refine cw (c1) ?_ | refine cw (as_nil _) ?_ | intro _) | (simp [*, repl]) | (refine cw_eq (c1) ?_ ?_; (· (simp [*]; done))) | (refine cw_eq (as_nil _) ?_ ?_; (· (simp [*]; done))))
end Go.Proofs.YtpjhpmpbdfeajaaGreatDoor

