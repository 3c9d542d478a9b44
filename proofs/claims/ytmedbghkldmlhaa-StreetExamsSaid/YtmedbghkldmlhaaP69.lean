/- Contracts of functions for this claim: lemmas alone. -/
import Derived.Test.YtmedbghkldmlhaaP68
set_option linter.unusedSimpArgs false
set_option linter.unusedVariables false
namespace Go.Proofs.Ytmedbghkldmlhaa
open Go Go.Fi

set_option maxHeartbeats 4000000 in
set_option maxRecDepth 20000 in
theorem xm_few (n : Net) (pl : List Int) (more : Int) (hA : RealCall Try.prog 15 [] (.bool true) true) (cf : RealCall Try.prog 16 [aNet n] (.bool false) true) : RealCall Try.prog 6 [aNet n, aExam pl more] (.bool true) true := by
  unfold aNet cNet at *
  refine realcall_intro Try.func6 (by kernel_rfl) rfl (Nat.le_of_ble_eq_true (by kernel_rfl)) ?_
  simp only [Try.results6, Try.ntmps6]
  repeat' (first | (with_reducible first | refine awp_seq ?_ | refine awp_blockS ?_ | refine awp_blockC ?_ | refine awp_blockR ?_ | refine awp_skip ?_ | refine awp_ret ?_ | refine awp_exit ?_ | refine awp_region ?_ | refine awp_regionD (id := 5) 7 mixed (by decide +kernel) ?_ | refine awp_regionS (id := 6) [0, 1, 2, 3, 4, 5, 6, 7] [8, 9] [[], [], [], [], [], [], [.new 0], []] [[.new 0], []] mixed (by decide +kernel) ?_ | refine awp_regionD (id := 15) 22 mixed (by decide +kernel) ?_ | refine awp_regionD (id := 17) 30 mixed (by decide +kernel) ?_ | refine awp_regionD (id := 25) 11 mixed (by decide +kernel) ?_ | refine awp_condM ?_ | refine And.intro ?_ ?_ | refine gM_splitN ?_ ?_ | refine gM_split ?_ ?_ | refine condM_splitDN ?_ ?_ | refine condM_splitD ?_ ?_ | refine condM_splitN ?_ ?_ | refine condM_split ?_ ?_ | refine condM_any ?_ ?_ | refine cw (hA) ?_ | refine cw (cf) ?_ | intro _) | (simp [*]))
  all_goals first | exact inI64 (by omega) (by omega) | omega | skip
set_option maxHeartbeats 4000000 in
set_option maxRecDepth 20000 in
theorem xm_long (n : Net) (pl : List Int) (more : Int) (hA : RealCall Try.prog 15 [] (.bool true) true) (cf : RealCall Try.prog 16 [aNet n] (.bool true) true) (cs : RealCall Try.prog 32 [.sl pl.length (ints pl)] (.bool false) true) : RealCall Try.prog 6 [aNet n, aExam pl more] (.bool true) true := by
  unfold aNet cNet at *
  refine realcall_intro Try.func6 (by kernel_rfl) rfl (Nat.le_of_ble_eq_true (by kernel_rfl)) ?_
  simp only [Try.results6, Try.ntmps6]
  repeat' (first | (with_reducible first | refine awp_seq ?_ | refine awp_blockS ?_ | refine awp_blockC ?_ | refine awp_blockR ?_ | refine awp_skip ?_ | refine awp_ret ?_ | refine awp_exit ?_ | refine awp_region ?_ | refine awp_regionD (id := 5) 7 mixed (by decide +kernel) ?_ | refine awp_regionS (id := 6) [0, 1, 2, 3, 4, 5, 6, 7] [8, 9] [[], [], [], [], [], [], [.new 0], []] [[.new 0], []] mixed (by decide +kernel) ?_ | refine awp_regionD (id := 15) 22 mixed (by decide +kernel) ?_ | refine awp_regionD (id := 17) 30 mixed (by decide +kernel) ?_ | refine awp_regionD (id := 25) 11 mixed (by decide +kernel) ?_ | refine awp_condM ?_ | refine And.intro ?_ ?_ | refine gM_splitN ?_ ?_ | refine gM_split ?_ ?_ | refine condM_splitDN ?_ ?_ | refine condM_splitD ?_ ?_ | refine condM_splitN ?_ ?_ | refine condM_split ?_ ?_ | refine condM_any ?_ ?_ | refine cw (hA) ?_ | refine cw (cf) ?_ | refine cw (cs) ?_ | intro _) | (simp [*]))
  all_goals first | exact inI64 (by omega) (by omega) | omega | skip
set_option maxHeartbeats 4000000 in
set_option maxRecDepth 20000 in
theorem xm_net (n : Net) (pl : List Int) (more : Int) (hA : RealCall Try.prog 15 [] (.bool true) true) (cf : RealCall Try.prog 16 [aNet n] (.bool true) true) (cs : RealCall Try.prog 32 [.sl pl.length (ints pl)] (.bool true) true) (cc : RealCall Try.prog 18 [aNet n] (aNet n) true) (cv : RealCall Try.prog 33 [.sl pl.length (ints pl)] (.sl pl.length (ints pl)) true) (e : Int) (he : e ≠ 0) (c1 : RealCall Try.prog 34 [aNet n, aExam pl more] (quadP (0, 0, false, e)) true) (c2 : RealCall Try.prog 25 [aNet n] (.int .i64 e) true) : RealCall Try.prog 6 [aNet n, aExam pl more] (.bool true) true := by
  unfold quadP at *
  unfold aNet cNet at *
  refine realcall_intro Try.func6 (by kernel_rfl) rfl (Nat.le_of_ble_eq_true (by kernel_rfl)) ?_
  simp only [Try.results6, Try.ntmps6]
  repeat' (first | (with_reducible first | refine awp_seq ?_ | refine awp_blockS ?_ | refine awp_blockC ?_ | refine awp_blockR ?_ | refine awp_skip ?_ | refine awp_ret ?_ | refine awp_exit ?_ | refine awp_region ?_ | refine awp_regionD (id := 5) 7 mixed (by decide +kernel) ?_ | refine awp_regionS (id := 6) [0, 1, 2, 3, 4, 5, 6, 7] [8, 9] [[], [], [], [], [], [], [.new 0], []] [[.new 0], []] mixed (by decide +kernel) ?_ | refine awp_regionD (id := 15) 22 mixed (by decide +kernel) ?_ | refine awp_regionD (id := 17) 30 mixed (by decide +kernel) ?_ | refine awp_regionD (id := 25) 11 mixed (by decide +kernel) ?_ | refine awp_condM ?_ | refine And.intro ?_ ?_ | refine gM_splitN ?_ ?_ | refine gM_split ?_ ?_ | refine condM_splitDN ?_ ?_ | refine condM_splitD ?_ ?_ | refine condM_splitN ?_ ?_ | refine condM_split ?_ ?_ | refine condM_any ?_ ?_ | refine cw (hA) ?_ | refine cw (cf) ?_ | refine cw (cs) ?_ | refine cw (cc) ?_ | refine cw (cv) ?_ | refine cw (c1) ?_ | refine cw (c2) ?_ | intro _) | (simp [*, he]))
  all_goals first | exact inI64 (by omega) (by omega) | omega | skip
set_option maxHeartbeats 4000000 in
set_option maxRecDepth 20000 in
theorem xm_err (n : Net) (pl : List Int) (more : Int) (hA : RealCall Try.prog 15 [] (.bool true) true) (cf : RealCall Try.prog 16 [aNet n] (.bool true) true) (cs : RealCall Try.prog 32 [.sl pl.length (ints pl)] (.bool true) true) (cc : RealCall Try.prog 18 [aNet n] (aNet n) true) (cv : RealCall Try.prog 33 [.sl pl.length (ints pl)] (.sl pl.length (ints pl)) true) (q1 q2 : Int) (q3 : Bool) (q4 : Int) (c1 : RealCall Try.prog 34 [aNet n, aExam pl more] (quadP (q1, q2, q3, q4)) true) (c2 : RealCall Try.prog 25 [aNet n] (.int .i64 0) true) (c3 : RealCall Try.prog 35 [aNet n, aExam pl more] (quadP (q1, q2, q3, q4)) true) (hd : q4 ≠ 0) : RealCall Try.prog 6 [aNet n, aExam pl more] (.bool true) true := by
  unfold quadP at *
  unfold aNet cNet at *
  refine realcall_intro Try.func6 (by kernel_rfl) rfl (Nat.le_of_ble_eq_true (by kernel_rfl)) ?_
  simp only [Try.results6, Try.ntmps6]
  repeat' (first | (with_reducible first | refine awp_seq ?_ | refine awp_blockS ?_ | refine awp_blockC ?_ | refine awp_blockR ?_ | refine awp_skip ?_ | refine awp_ret ?_ | refine awp_exit ?_ | refine awp_region ?_ | refine awp_regionD (id := 5) 7 mixed (by decide +kernel) ?_ | refine awp_regionS (id := 6) [0, 1, 2, 3, 4, 5, 6, 7] [8, 9] [[], [], [], [], [], [], [.new 0], []] [[.new 0], []] mixed (by decide +kernel) ?_ | refine awp_regionD (id := 15) 22 mixed (by decide +kernel) ?_ | refine awp_regionD (id := 17) 30 mixed (by decide +kernel) ?_ | refine awp_regionD (id := 25) 11 mixed (by decide +kernel) ?_ | refine awp_condM ?_ | refine And.intro ?_ ?_ | refine gM_splitN ?_ ?_ | refine gM_split ?_ ?_ | refine condM_splitDN ?_ ?_ | refine condM_splitD ?_ ?_ | refine condM_splitN ?_ ?_ | refine condM_split ?_ ?_ | refine condM_any ?_ ?_ | refine cw (hA) ?_ | refine cw (cf) ?_ | refine cw (cs) ?_ | refine cw (cc) ?_ | refine cw (cv) ?_ | refine cw (c1) ?_ | refine cw (c2) ?_ | refine cw (c3) ?_ | intro _) | (simp [*, hd]))
  all_goals first | exact inI64 (by omega) (by omega) | omega | skip
set_option maxHeartbeats 4000000 in
set_option maxRecDepth 20000 in
theorem xm_empty (n : Net) (pl : List Int) (more : Int) (hA : RealCall Try.prog 15 [] (.bool true) true) (cf : RealCall Try.prog 16 [aNet n] (.bool true) true) (cs : RealCall Try.prog 32 [.sl pl.length (ints pl)] (.bool true) true) (cc : RealCall Try.prog 18 [aNet n] (aNet n) true) (cv : RealCall Try.prog 33 [.sl pl.length (ints pl)] (.sl pl.length (ints pl)) true) (q1 q2 : Int) (q3 : Bool) (q4 : Int) (c1 : RealCall Try.prog 34 [aNet n, aExam pl more] (quadP (q1, q2, q3, q4)) true) (c2 : RealCall Try.prog 25 [aNet n] (.int .i64 0) true) (c3 : RealCall Try.prog 35 [aNet n, aExam pl more] (quadP (q1, q2, q3, q4)) true) (hd : q4 = 0) (z0 : 2 ≤ pl.length) (zl : pl.length ≤ 202) (s : List Int) (c4 : RealCall Try.prog 36 [aNet n, .int .i64 (nth pl 0), .int .i64 (nth pl (pl.length - 1))] (.tup [.sl s.length (ints s), .int .i64 q2, .int .i64 0]) true) (c5 : RealCall Try.prog 37 [aNet n, .sl s.length (ints s)] (.tup [.int .i64 0, .int .i64 0]) true) (c6 : RealCall Try.prog 38 [aNet n, .sl s.length (ints s), .int .i64 (nth pl 0), .int .i64 (nth pl (pl.length - 1))] (.bool true) true) (h0 : s.length = 0) : RealCall Try.prog 6 [aNet n, aExam pl more] (.bool true) true := by
  subst hd
  unfold quadP at *
  have z1 : 0 < pl.length := by omega
  have z2 : pl.length - 1 < pl.length := by omega
  have z3 : ((pl.length : Int) - 1).toNat = pl.length - 1 := by omega
  obtain rfl : s = [] := List.eq_nil_of_length_eq_zero h0
  clear h0
  unfold aNet cNet at *
  refine realcall_intro Try.func6 (by kernel_rfl) rfl (Nat.le_of_ble_eq_true (by kernel_rfl)) ?_
  simp only [Try.results6, Try.ntmps6]
  repeat' (first | (with_reducible first | refine awp_seq ?_ | refine awp_blockS ?_ | refine awp_blockC ?_ | refine awp_blockR ?_ | refine awp_skip ?_ | refine awp_ret ?_ | refine awp_exit ?_ | refine awp_region ?_ | refine awp_regionD (id := 5) 7 mixed (by decide +kernel) ?_ | refine awp_regionS (id := 6) [0, 1, 2, 3, 4, 5, 6, 7] [8, 9] [[], [], [], [], [], [], [.new 0], []] [[.new 0], []] mixed (by decide +kernel) ?_ | refine awp_regionD (id := 15) 22 mixed (by decide +kernel) ?_ | refine awp_regionD (id := 17) 30 mixed (by decide +kernel) ?_ | refine awp_regionD (id := 25) 11 mixed (by decide +kernel) ?_ | refine awp_condM ?_ | refine And.intro ?_ ?_ | refine gM_splitN ?_ ?_ | refine gM_split ?_ ?_ | refine condM_splitDN ?_ ?_ | refine condM_splitD ?_ ?_ | refine condM_splitN ?_ ?_ | refine condM_split ?_ ?_ | refine condM_any ?_ ?_ | refine cw (hA) ?_ | refine cw (cf) ?_ | refine cw (cs) ?_ | refine cw (cc) ?_ | refine cw (cv) ?_ | refine cw (c1) ?_ | refine cw (c2) ?_ | refine cw (c3) ?_ | refine cw (c4) ?_ | refine cw (c5) ?_ | refine cw (c6) ?_ | intro _) | (simp [*, z1, z2, z3]))
  all_goals first | exact inI64 (by omega) (by omega) | omega | skip

@[simp] theorem iA_tK0 (n : Net) (a : Nat) (s : List Int) : iA (tK n a s 0) = [.w false false (.int .i64 (a : Int))] := rfl
set_option maxHeartbeats 4000000 in
set_option maxRecDepth 20000 in
theorem xm_good (n : Net) (pl : List Int) (more : Int) (hA : RealCall Try.prog 15 [] (.bool true) true) (cf : RealCall Try.prog 16 [aNet n] (.bool true) true) (cs : RealCall Try.prog 32 [.sl pl.length (ints pl)] (.bool true) true) (cc : RealCall Try.prog 18 [aNet n] (aNet n) true) (cv : RealCall Try.prog 33 [.sl pl.length (ints pl)] (.sl pl.length (ints pl)) true) (q1 q2 : Int) (q3 : Bool) (q4 : Int) (c1 : RealCall Try.prog 34 [aNet n, aExam pl more] (quadP (q1, q2, q3, q4)) true) (c2 : RealCall Try.prog 25 [aNet n] (.int .i64 0) true) (c3 : RealCall Try.prog 35 [aNet n, aExam pl more] (quadP (q1, q2, q3, q4)) true) (hd : q4 = 0) (z0 : 2 ≤ pl.length) (zl : pl.length ≤ 202) (s : List Int) (c4 : RealCall Try.prog 36 [aNet n, .int .i64 (nth pl 0), .int .i64 (nth pl (pl.length - 1))] (.tup [.sl s.length (ints s), .int .i64 q2, .int .i64 0]) true) (c5 : RealCall Try.prog 37 [aNet n, .sl s.length (ints s)] (.tup [.int .i64 0, .int .i64 0]) true) (c6 : RealCall Try.prog 38 [aNet n, .sl s.length (ints s), .int .i64 (nth pl 0), .int .i64 (nth pl (pl.length - 1))] (.bool true) true) (h0 : s.length ≠ 0) (hl20 : s.length ≤ 20) (hrd : ∀ i, i < s.length → 0 ≤ nth s i ∧ nth s i < n.roads.length) (a : Nat) (ha : nth pl 0 = a) (hnr : n.roads.length < 1000) (c7 : RealCall Try.prog 34 [aNet n, .agg [.sl (s.length + 1) (ints (tK n a s s.length)), .int .i64 0]] (quadP (q2, q2, true, 0)) true) : RealCall Try.prog 6 [aNet n, aExam pl more] (.bool true) true := by
  subst hd
  unfold quadP at *
  have z1 : 0 < pl.length := by omega
  have z2 : pl.length - 1 < pl.length := by omega
  have z3 : ((pl.length : Int) - 1).toNat = pl.length - 1 := by omega
  have h0i : ¬ (s.length : Int) = 0 := by omega
  have krd := keep hrd
  have ka := keep ha
  clear hrd ha
  unfold aNet cNet at *
  refine realcall_intro Try.func6 (by kernel_rfl) rfl (Nat.le_of_ble_eq_true (by kernel_rfl)) ?_
  simp only [Try.results6, Try.ntmps6]
  repeat' (first | (with_reducible first | refine awp_seq ?_ | refine awp_blockS ?_ | refine awp_blockC ?_ | refine awp_blockR ?_ | refine awp_skip ?_ | refine awp_ret ?_ | refine awp_exit ?_ | refine awp_region ?_ | refine awp_regionD (id := 5) 7 mixed (by decide +kernel) ?_ | refine awp_regionS (id := 6) [0, 1, 2, 3, 4, 5, 6, 7] [8, 9] [[], [], [], [], [], [], [.new 0], []] [[.new 0], []] mixed (by decide +kernel) ?_ | refine awp_regionD (id := 15) 22 mixed (by decide +kernel) ?_ | refine awp_regionD (id := 17) 30 mixed (by decide +kernel) ?_ | refine awp_regionD (id := 25) 11 mixed (by decide +kernel) ?_ | refine awp_condM ?_ | refine And.intro ?_ ?_ | refine gM_splitN ?_ ?_ | refine gM_split ?_ ?_ | refine condM_splitDN ?_ ?_ | refine condM_splitD ?_ ?_ | refine condM_splitN ?_ ?_ | refine condM_split ?_ ?_ | refine condM_any ?_ ?_ | refine cw (hA) ?_ | refine cw (cf) ?_ | refine cw (cs) ?_ | refine cw (cc) ?_ | refine cw (cv) ?_ | refine cw (c1) ?_ | refine cw (c2) ?_ | refine cw (c3) ?_ | refine cw (c4) ?_ | refine cw (c5) ?_ | refine cw (c6) ?_ | intro _) | (simp [*, z1, z2, z3, h0i, h0]))
  all_goals first | exact inI64 (by omega) (by omega) | omega | skip
  clear hA cf cs cv c1 c2 c3 c4 c5 c6
  rw [keep_def] at ka
  rw [ka]
  refine awp_for3 (fun (k : Nat) => k ≤ s.length) [2, 11, 12] (fun (k : Nat) => [(16, .msl 5 (k + 1) 1 0 (k + 1)), (17, .w false false (.int .i64 k))]) [0] (fun (k : Nat) => [(5, iA (tK n a s k))]) (fun (k : Nat) => s.length - k) (fun (_u : Unit) => True) [2, 12] (fun (_u : Unit) => [(16, .msl 5 (s.length + 1) 1 0 (s.length + 1))]) [0] (fun (_u : Unit) => [(5, iA (tK n a s s.length))]) (0) (Nat.zero_le _) (by simp) (by simp) (fun k hk => ?_) (fun _u hf => ?_)
  · by_cases hlt : k < s.length
    · have hx := krd k hlt
      have t1 : (nth s k).toNat < n.roads.length := by omega
      have e := tK_succ (n := n) (a := a) hlt
      have el := tK_len (n := n) (a := a) (s := s) (k := k) (by omega)
      have ke := keep e
      clear e
      repeat' (first | (with_reducible first | refine awp_seq ?_ | refine awp_blockS ?_ | refine awp_blockC ?_ | refine awp_blockR ?_ | refine awp_skip ?_ | refine awp_ret ?_ | refine awp_exit ?_ | refine awp_region ?_ | refine awp_regionD (id := 5) 7 mixed (by decide +kernel) ?_ | refine awp_regionS (id := 6) [0, 1, 2, 3, 4, 5, 6, 7] [8, 9] [[], [], [], [], [], [], [.new 0], []] [[.new 0], []] mixed (by decide +kernel) ?_ | refine awp_regionD (id := 15) 22 mixed (by decide +kernel) ?_ | refine awp_regionD (id := 17) 30 mixed (by decide +kernel) ?_ | refine awp_regionD (id := 25) 11 mixed (by decide +kernel) ?_ | refine awp_condM ?_ | refine And.intro ?_ ?_ | refine gM_splitN ?_ ?_ | refine gM_split ?_ ?_ | refine condM_splitDN ?_ ?_ | refine condM_splitD ?_ ?_ | refine condM_splitN ?_ ?_ | refine condM_split ?_ ?_ | refine condM_any ?_ ?_ | intro _) | (simp [*, hlt, t1, el]))
      all_goals first
        | exact inI64 (by omega) (by omega)
        | omega
        | (rw [keep_def] at ke; (refine loopK_normal _ _ _ _ _ (k + 1) _ ?_ (by first | omega | (dsimp only; omega) | (simp; omega)) ?_; (· omega); (refine le_of ?_ ?_ <;> first | trivial | (simp [*, ke]; done))))
        | skip
    · have hke : k = s.length := by omega
      subst hke
      repeat' (first | (with_reducible first | refine awp_seq ?_ | refine awp_blockS ?_ | refine awp_blockC ?_ | refine awp_blockR ?_ | refine awp_skip ?_ | refine awp_ret ?_ | refine awp_exit ?_ | refine awp_region ?_ | refine awp_regionD (id := 5) 7 mixed (by decide +kernel) ?_ | refine awp_regionS (id := 6) [0, 1, 2, 3, 4, 5, 6, 7] [8, 9] [[], [], [], [], [], [], [.new 0], []] [[.new 0], []] mixed (by decide +kernel) ?_ | refine awp_regionD (id := 15) 22 mixed (by decide +kernel) ?_ | refine awp_regionD (id := 17) 30 mixed (by decide +kernel) ?_ | refine awp_regionD (id := 25) 11 mixed (by decide +kernel) ?_ | refine awp_condM ?_ | refine And.intro ?_ ?_ | refine gM_splitN ?_ ?_ | refine gM_split ?_ ?_ | refine condM_splitDN ?_ ?_ | refine condM_splitD ?_ ?_ | refine condM_splitN ?_ ?_ | refine condM_split ?_ ?_ | refine condM_any ?_ ?_ | intro _) | (simp [*]))
      all_goals (refine finW_intro () ?_ ?_; (· trivial); (refine le_of ?_ ?_ <;> first | trivial | (simp [*]; done)))
  · have el := tK_len (n := n) (a := a) (s := s) (Nat.le_refl s.length)
    repeat' (first | (with_reducible first | refine awp_seq ?_ | refine awp_blockS ?_ | refine awp_blockC ?_ | refine awp_blockR ?_ | refine awp_skip ?_ | refine awp_ret ?_ | refine awp_exit ?_ | refine awp_region ?_ | refine awp_regionD (id := 5) 7 mixed (by decide +kernel) ?_ | refine awp_regionS (id := 6) [0, 1, 2, 3, 4, 5, 6, 7] [8, 9] [[], [], [], [], [], [], [.new 0], []] [[.new 0], []] mixed (by decide +kernel) ?_ | refine awp_regionD (id := 15) 22 mixed (by decide +kernel) ?_ | refine awp_regionD (id := 17) 30 mixed (by decide +kernel) ?_ | refine awp_regionD (id := 25) 11 mixed (by decide +kernel) ?_ | refine awp_condM ?_ | refine And.intro ?_ ?_ | refine gM_splitN ?_ ?_ | refine gM_split ?_ ?_ | refine condM_splitDN ?_ ?_ | refine condM_splitD ?_ ?_ | refine condM_splitN ?_ ?_ | refine condM_split ?_ ?_ | refine condM_any ?_ ?_ | refine cw (cc) ?_ | refine cw (c7) ?_ | intro _) | (simp [*, el]))
    all_goals try omega

theorem streetExams_c (hA : RealCall Try.prog 15 [] (.bool true) true) (n : Net) (pl : List Int) (more : Int) : RealCall Try.prog 6 [aNet n, aExam pl more] (.bool true) true := by
  have cf := few_c n
  have cs := short_c pl
  cases hf : fewB n with
  | false => rw [hf] at cf; exact xm_few n pl more hA cf
  | true =>
    rw [hf] at cf
    by_cases hs : pl.length ≤ 12 ∨ 200 < pl.length ∧ pl.length ≤ 202
    · rw [decide_eq_true hs] at cs
      have h := few_in hf
      have hl : pl.length < 1000 := by omega
      have cc := rCopy_c n h
      have cv := copyInts_c pl (by omega)
      have c2 := rNetErr_c n h
      by_cases hn : (netS n).2.2 = 0
      · rw [hn] at c2
        have ok := net_ok h hn
        have c1 := examined_c n h hn pl hl more
        have c3 := rExamined_c n ok pl hl more
        by_cases hd : (exS n pl more).2.2.2 = 0
        · obtain ⟨g1, g2, g3, g4, g5⟩ := exam_good hd
          have p0 := g3 0 (by omega)
          have p1 := g3 (pl.length - 1) (by omega)
          obtain ⟨a, ha⟩ : ∃ a : Nat, nth pl 0 = a := ⟨(nth pl 0).toNat, by omega⟩
          obtain ⟨b, hb⟩ : ∃ b : Nat, nth pl (pl.length - 1) = b := ⟨(nth pl (pl.length - 1)).toNat, by omega⟩
          have la : a < n.places.length := by omega
          have lb : b < n.places.length := by omega
          have hx := growS_fixed ok (along_len ok) la (Int.le_refl 0) (by omega)
          have hr := told_reach (pl.length - 1) g4
          rw [ha, hb, Int.toNat_natCast, Int.toNat_natCast] at hr g5
          have hle := fixed_least ok len_mono hx (Int.le_refl _) hr
          have hpE : pE n a b = 0 := by
            unfold pE
            rw [hn, first3, if_neg (by decide)]
            have w1 : winB (a : Int) 0 (n.places.length - 1) = true := by unfold winB; simp; omega
            have w2 : winB (b : Int) 0 (n.places.length - 1) = true := by unfold winB; simp; omega
            rw [w1, w2]; rfl
          have hne : nth (growS fLen n a 0).l b ≠ -1 := by omega
          obtain ⟨Rv, q1, q2, q3, q4⟩ := tree_way ok (along_len ok) len_mono la (Int.le_refl 0) (by omega) lb hne
          have c4 := shortest_ok n h a b a b ⟨ok, la, lb, rfl, rfl⟩ hpE hne (Rv.length + 1) (by omega) Rv q1
          have hRl : Rv.reverse.length = Rv.length := List.length_reverse
          rw [← hRl] at c4
          have hwS := way_of q3.ok (by omega)
          have c5 := rWayErr_c n h Rv.reverse (by omega)
          rw [hwS] at c5
          have c6 := rJoins_c n h.nr Rv.reverse q3.ok (by omega) a b
          rw [q3.joins ok] at c6
          have em : metS n Rv.reverse = nth (growS fLen n a 0).l b := by rw [← q4, evalW_len]; omega
          rw [← g5, ← ha, ← hb] at c4
          rw [← ha, ← hb] at c6
          by_cases h0 : Rv.reverse.length = 0
          · exact xm_empty n pl more hA cf cs cc cv _ _ _ _ c1 c2 c3 hd g1 (by omega) _ c4 c5 c6 h0
          · have ht := told_way ok la h0 (by omega) q3 em hx
            have hlen := tK_len (n := n) (a := a) (s := Rv.reverse) (Nat.le_refl _)
            have c7 := examined_c n h hn (tK n a Rv.reverse Rv.reverse.length) (by omega) 0
            rw [ht, em, ← g5] at c7
            unfold aExam at c7
            rw [hlen] at c7
            exact xm_good n pl more hA cf cs cc cv _ _ _ _ c1 c2 c3 hd g1 (by omega) _ c4 c5 c6 h0 (by omega) q3.ok.idx a ha h.nr c7
        · exact xm_err n pl more hA cf cs cc cv _ _ _ _ c1 c2 c3 hd
      · exact xm_net n pl more hA cf cs cc cv _ hn (examined_bad n h pl hl more hn) c2
    · rw [decide_eq_false hs] at cs
      exact xm_long n pl more hA cf cs
end Go.Proofs.Ytmedbghkldmlhaa
