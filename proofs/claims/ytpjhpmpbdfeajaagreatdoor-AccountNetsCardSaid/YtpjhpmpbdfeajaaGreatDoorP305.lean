/- Contracts of functions for this claim: lemmas alone. -/
import Derived.Test.YtpjhpmpbdfeajaaGreatDoorP303
set_option linter.unusedSimpArgs false
set_option linter.unusedVariables false
namespace Go.Proofs.YtpjhpmpbdfeajaaGreatDoor
open Go Go.Fi
set_option maxRecDepth 20000
attribute [-simp] cEntries_drop2

/-! ### the document's Netted -/
theorem kM_mem {M : Sums} {q : ByteArray} : Lib.containsS (kM M) q = (lookM M q).isSome := by
  cases h : (lookM M q).isSome with
  | true => exact (Lib.containsS_iff _ _).2 (lookM_mem.1 h)
  | false =>
    cases hc : Lib.containsS (kM M) q with
    | false => rfl
    | true => rw [lookM_mem.2 ((Lib.containsS_iff _ _).1 hc)] at h; cases h
theorem kM_old {Q : Sums} {ls : List Line} {j : Nat} (h : Lib.containsS (kM (netL Q ls j)) (nth ls j).acc = true) : kM (netL Q ls (j + 1)) = kM (netL Q ls j) := by
  rw [kM_mem] at h
  obtain ⟨x, hx⟩ := Option.isSome_iff_exists.1 h
  rw [(netL_some hx).1]; exact (netL_some hx).2
theorem kM_new {Q : Sums} {ls : List Line} {j : Nat} (h : Lib.containsS (kM (netL Q ls j)) (nth ls j).acc = false) : kM (netL Q ls (j + 1)) = kM (netL Q ls j) ++ [(nth ls j).acc] := by
  rw [kM_mem] at h
  have hx : lookM (netL Q ls j) (nth ls j).acc = none := by
    cases hl : lookM (netL Q ls j) (nth ls j).acc with
    | none => rfl
    | some x => rw [hl] at h; cases h
  rw [(netL_none hx).1]; exact (netL_none hx).2
theorem linesIn_of {ls : List Line} (h : linesE ls = 0) : LinesIn ls := ⟨by have := (linesE_zero h).1; omega, (linesE_zero h).2⟩
theorem putS_12 (n : ByteArray) {ls : List Line} (h : linesE ls = 0) : -12000000000 ≤ putS n ls ∧ putS n ls ≤ 12000000000 := by
  have h1 := putS_abs n ls (linesE_zero h).2
  have h2 := (linesE_zero h).1
  omega
theorem sumE_bnd (l : List Entry) (h : ∀ j, j < l.length → linesE (nth l j).lines = 0) (n : ByteArray) : ∀ k, k ≤ l.length → -(12000000000 * (k : Int)) ≤ sumE n l k ∧ sumE n l k ≤ 12000000000 * (k : Int)
  | 0, _ => by simp
  | k + 1, hk => by
    have ih := sumE_bnd l h n k (by omega)
    have hp := putS_12 n (h k (by omega))
    rw [show sumE n l (k + 1) = sumE n l k + putS n (nth l k).lines from rfl]
    omega
set_option maxHeartbeats 16000000 in
theorem rNetted_main (l : List Entry) (note : ByteArray) (hn : note.size < 1000000) (h0 : 0 < l.length) (h1 : l.length ≤ 100) (hll : ∀ k, k < l.length → (nth l k).lines.length < 1000) (V : Entry) (v : Int)
    (hbad : errL l ≠ 0 → V = noEntry ∧ v = errL l) (hbad2 : errL l = 0 → noteE note ≠ 0 → V = noEntry ∧ v = noteE note)
    (hmuch : errL l = 0 → noteE note = 0 → muchB (outN l note) = true → V = noEntry ∧ v = 8)
    (hok : errL l = 0 → noteE note = 0 → muchB (outN l note) = false → V = outN l note ∧ v = 0) :
    RealCall Tryz.prog 27 [.sl l.length (cEntries l), .str note] (.tup [.agg (cEntry V), .int .i64 v]) true := by
  have kbad := keep hbad
  have kbad2 := keep hbad2
  have kmuch := keep hmuch
  have kok := keep hok
  have kll := keep hll
  clear hbad hbad2 hmuch hok hll
  have hz0 : ¬ l.length = 0 := by omega
  have hz0I : ¬ (l.length : Int) = 0 := by omega
  have hz1 : ¬ (100 : Int) < (l.length : Int) := by omega
  have hnil : ¬ l = [] := fun e => hz0 (by rw [e]; rfl)
  refine realcall_intro Tryz.func27 (by kernel_rfl) rfl (Nat.le_of_ble_eq_true (by kernel_rfl)) ?_
  simp only [Tryz.results27, Tryz.ntmps27]
  repeat' (first | (with_reducible first | refine awp_seq ?_ | refine awp_blockS ?_ | refine awp_blockC ?_ | refine awp_blockR ?_ | refine awp_skip ?_ | refine awp_ret ?_ | refine awp_exit ?_ | refine awp_region ?_ | refine awp_regionD (id := 28) 11 mixed (by decide +kernel) ?_ | refine awp_regionD (id := 30) 9 mixed (by decide +kernel) ?_ | refine awp_condM ?_ | refine And.intro ?_ ?_ | apply gQ_merge | apply gE_merge | exact EqV_w | exact EqE_w | exact EqV_ptr | exact EqE_ptr | exact EqV_msl | exact EqE_msl | exact EqV_agg | exact EqE_agg | exact EqV_fn | exact EqE_fn | exact EqV_gd | exact EqE_gd | refine gM_splitN ?_ ?_ | refine gM_split ?_ ?_ |  refine condM_splitDN ?_ ?_ | refine condM_splitD ?_ ?_ | refine condM_splitN ?_ ?_ | refine condM_split ?_ ?_ | refine condM_any ?_ ?_ | intro _) | (simp [*, hz0I, hz1, hz0, hnil]))
  refine awp_for4 2 (fun (k : Nat) => k ≤ l.length ∧ (∀ j, j < k → linesE (nth l j).lines = 0)) [0, 1, 4] (fun (k : Nat) => [(7, .w false false (.int .i64 k)), (6, .msl 1 (kM (netK l k)).length 1 0 (kM (netK l k)).length)]) [0] (fun (k : Nat) => [(1, stA (kM (netK l k)))]) (fun (k : Nat) => l.length - k) (fun (_u : Unit) => ∀ j, j < l.length → linesE (nth l j).lines = 0) [0, 1, 4] (fun (_u : Unit) => [(6, .msl 1 (kM (netK l l.length)).length 1 0 (kM (netK l l.length)).length)]) [0] (fun (_u : Unit) => [(1, stA (kM (netK l l.length)))]) (0) ⟨Nat.zero_le _, fun j hj => absurd hj (Nat.not_lt_zero _)⟩ (le_gen [] (by simp) (by simp)) (fun k hk => ?_) (fun _u hf => ?_)
  · obtain ⟨hk, hj⟩ := hk
    by_cases hlt : k < l.length
    · have hL := (show ∀ k, k < l.length → (nth l k).lines.length < 1000 from kll) k hlt
      have c1 := rLinesErr_c (nth l k) (by omega)
      by_cases hz : linesE (nth l k).lines = 0
      · rw [hz] at c1
        obtain ⟨hl12, hamt⟩ := linesE_zero hz
        have hkl := netK_len l k hk hj
        have hnl := keep (netL_len (netK l k) (nth l k).lines)
        have kj : Keep (∀ j, j < k + 1 → linesE (nth l j).lines = 0) := keep (fun j hjk => by
          rcases Nat.lt_or_eq_of_le (Nat.le_of_lt_succ hjk) with h | h
          · exact hj j h
          · rw [h]; exact hz)
        have ks := keep (show netK l (k + 1) = netL (netK l k) (nth l k).lines (nth l k).lines.length from rfl)
        clear hj kll hz hamt kbad kbad2 kmuch kok
        generalize netK l k = Q at *
        unfold cEntry at c1
        repeat' (first | (with_reducible first | refine awp_seq ?_ | refine awp_blockS ?_ | refine awp_blockC ?_ | refine awp_blockR ?_ | refine awp_skip ?_ | refine awp_ret ?_ | refine awp_exit ?_ | refine awp_region ?_ | refine awp_regionD (id := 28) 11 mixed (by decide +kernel) ?_ | refine awp_regionD (id := 30) 9 mixed (by decide +kernel) ?_ | refine awp_condM ?_ | refine And.intro ?_ ?_ | apply gQ_merge | apply gE_merge | exact EqV_w | exact EqE_w | exact EqV_ptr | exact EqE_ptr | exact EqV_msl | exact EqE_msl | exact EqV_agg | exact EqE_agg | exact EqV_fn | exact EqE_fn | exact EqV_gd | exact EqE_gd | refine gM_splitN ?_ ?_ | refine gM_split ?_ ?_ |  refine condM_splitDN ?_ ?_ | refine condM_splitD ?_ ?_ | refine condM_splitN ?_ ?_ | refine condM_split ?_ ?_ | refine condM_any ?_ ?_ | refine cw (c1) ?_ | intro _) | (simp [*, hlt, cEntry]) | (refine cw_eq (c1) ?_ ?_; (· (simp [*]; done))))
        all_goals try first | exact inI64 (by omega) (by omega) | omega
        refine awp_for4 2 (fun (j : Nat) => j ≤ (nth l k).lines.length) [0, 1, 4, 7] (fun (j : Nat) => [(9, .w false false (.int .i64 j)), (6, .msl 1 (kM (netL Q (nth l k).lines j)).length 1 0 (kM (netL Q (nth l k).lines j)).length)]) [0] (fun (j : Nat) => [(1, stA (kM (netL Q (nth l k).lines j)))]) (fun (j : Nat) => (nth l k).lines.length - j) (fun (_u : Unit) => True) [0, 1, 4, 7] (fun (_u : Unit) => [(6, .msl 1 (kM (netL Q (nth l k).lines (nth l k).lines.length)).length 1 0 (kM (netL Q (nth l k).lines (nth l k).lines.length)).length)]) [0] (fun (_u : Unit) => [(1, stA (kM (netL Q (nth l k).lines (nth l k).lines.length)))]) (0) (Nat.zero_le _) (le_gen [] (by simp) (by simp)) (fun j hk => ?_) (fun _u hf => ?_)
        · by_cases hjl : j < (nth l k).lines.length
          · have hn2 := (show ∀ j, (kM (netL Q (nth l k).lines j)).length ≤ (kM Q).length + j from hnl) j
            have c3 := hasText_c (kM (netL Q (nth l k).lines j)) (by omega) (nth (nth l k).lines j).acc
            have hN := kM_new (Q := Q) (ls := (nth l k).lines) (j := j)
            have hS := kM_old (Q := Q) (ls := (nth l k).lines) (j := j)
            clear hnl ks kj c1
            generalize kM (netL Q (nth l k).lines j) = R at *
            cases hlk : Lib.containsS R (nth (nth l k).lines j).acc with
            | false =>
              have k1 := keep (hN hlk)
              rw [hlk] at c3
              clear hN hS
              repeat' (first | (with_reducible first | refine awp_seq ?_ | refine awp_blockS ?_ | refine awp_blockC ?_ | refine awp_blockR ?_ | refine awp_skip ?_ | refine awp_ret ?_ | refine awp_exit ?_ | refine awp_region ?_ | refine awp_regionD (id := 28) 11 mixed (by decide +kernel) ?_ | refine awp_regionD (id := 30) 9 mixed (by decide +kernel) ?_ | refine awp_condM ?_ | refine And.intro ?_ ?_ | apply gQ_merge | apply gE_merge | exact EqV_w | exact EqE_w | exact EqV_ptr | exact EqE_ptr | exact EqV_msl | exact EqE_msl | exact EqV_agg | exact EqE_agg | exact EqV_fn | exact EqE_fn | exact EqV_gd | exact EqE_gd | refine gM_splitN ?_ ?_ | refine gM_split ?_ ?_ |  refine condM_splitDN ?_ ?_ | refine condM_splitD ?_ ?_ | refine condM_splitN ?_ ?_ | refine condM_split ?_ ?_ | refine condM_any ?_ ?_ | refine cw (c3) ?_ | intro _) | (simp [*, hlt, hjl, cLine]) | (refine cw_eq (c3) ?_ ?_; (· (simp [*]; done))))
              all_goals try first | exact inI64 (by omega) (by omega) | omega
              all_goals (refine loopK_normal _ _ _ _ _ (j + 1) _ ?_ (by first | omega | (dsimp only; omega) | (simp; omega)) ?_; (· omega); (refine le_gen [] ?_ ?_ <;> first | trivial | (simp [*, (show kM (netL Q (nth l k).lines (j + 1)) = _ from k1)]; done)))
            | true =>
              have k1 := keep (hS hlk)
              rw [hlk] at c3
              clear hN hS
              repeat' (first | (with_reducible first | refine awp_seq ?_ | refine awp_blockS ?_ | refine awp_blockC ?_ | refine awp_blockR ?_ | refine awp_skip ?_ | refine awp_ret ?_ | refine awp_exit ?_ | refine awp_region ?_ | refine awp_regionD (id := 28) 11 mixed (by decide +kernel) ?_ | refine awp_regionD (id := 30) 9 mixed (by decide +kernel) ?_ | refine awp_condM ?_ | refine And.intro ?_ ?_ | apply gQ_merge | apply gE_merge | exact EqV_w | exact EqE_w | exact EqV_ptr | exact EqE_ptr | exact EqV_msl | exact EqE_msl | exact EqV_agg | exact EqE_agg | exact EqV_fn | exact EqE_fn | exact EqV_gd | exact EqE_gd | refine gM_splitN ?_ ?_ | refine gM_split ?_ ?_ |  refine condM_splitDN ?_ ?_ | refine condM_splitD ?_ ?_ | refine condM_splitN ?_ ?_ | refine condM_split ?_ ?_ | refine condM_any ?_ ?_ | refine cw (c3) ?_ | intro _) | (simp [*, hlt, hjl, cLine]) | (refine cw_eq (c3) ?_ ?_; (· (simp [*]; done))))
              all_goals try first | exact inI64 (by omega) (by omega) | omega
              all_goals (refine loopK_normal _ _ _ _ _ (j + 1) _ ?_ (by first | omega | (dsimp only; omega) | (simp; omega)) ?_; (· omega); (refine le_gen [] ?_ ?_ <;> first | trivial | (simp [*, (show kM (netL Q (nth l k).lines (j + 1)) = _ from k1)]; done)))
          · have hke : j = (nth l k).lines.length := by omega
            subst hke
            clear hnl ks kj c1
            repeat' (first | (with_reducible first | refine awp_seq ?_ | refine awp_blockS ?_ | refine awp_blockC ?_ | refine awp_blockR ?_ | refine awp_skip ?_ | refine awp_ret ?_ | refine awp_exit ?_ | refine awp_region ?_ | refine awp_regionD (id := 28) 11 mixed (by decide +kernel) ?_ | refine awp_regionD (id := 30) 9 mixed (by decide +kernel) ?_ | refine awp_condM ?_ | refine And.intro ?_ ?_ | apply gQ_merge | apply gE_merge | exact EqV_w | exact EqE_w | exact EqV_ptr | exact EqE_ptr | exact EqV_msl | exact EqE_msl | exact EqV_agg | exact EqE_agg | exact EqV_fn | exact EqE_fn | exact EqV_gd | exact EqE_gd | refine gM_splitN ?_ ?_ | refine gM_split ?_ ?_ |  refine condM_splitDN ?_ ?_ | refine condM_splitD ?_ ?_ | refine condM_splitN ?_ ?_ | refine condM_split ?_ ?_ | refine condM_any ?_ ?_ | intro _) | (simp [*, hlt]))
            all_goals first | (refine finW_intro () ?_ ?_; (· trivial); (refine le_gen [] ?_ ?_ <;> first | trivial | (simp [*]; done))) | omega
        · clear hnl c1
          repeat' (first | (with_reducible first | refine awp_seq ?_ | refine awp_blockS ?_ | refine awp_blockC ?_ | refine awp_blockR ?_ | refine awp_skip ?_ | refine awp_ret ?_ | refine awp_exit ?_ | refine awp_region ?_ | refine awp_regionD (id := 28) 11 mixed (by decide +kernel) ?_ | refine awp_regionD (id := 30) 9 mixed (by decide +kernel) ?_ | refine awp_condM ?_ | refine And.intro ?_ ?_ | apply gQ_merge | apply gE_merge | exact EqV_w | exact EqE_w | exact EqV_ptr | exact EqE_ptr | exact EqV_msl | exact EqE_msl | exact EqV_agg | exact EqE_agg | exact EqV_fn | exact EqE_fn | exact EqV_gd | exact EqE_gd | refine gM_splitN ?_ ?_ | refine gM_split ?_ ?_ |  refine condM_splitDN ?_ ?_ | refine condM_splitD ?_ ?_ | refine condM_splitN ?_ ?_ | refine condM_split ?_ ?_ | refine condM_any ?_ ?_ | intro _) | (simp [*]))
          all_goals try first | exact inI64 (by omega) (by omega) | omega
          all_goals (refine loopK_normal _ _ _ _ _ (k + 1) _ ?_ (by first | omega | (dsimp only; omega) | (simp; omega)) ?_; (· exact ⟨by omega, kj⟩); (refine le_gen [] ?_ ?_ <;> first | trivial | (simp [*, (show netK l (k + 1) = _ from ks)]; done)))
      · have hE : errL l = linesE (nth l k).lines := errL_first hlt hj hz
        obtain ⟨hV, hv⟩ := (show errL l ≠ 0 → V = noEntry ∧ v = errL l from kbad) (by rw [hE]; exact hz)
        rw [hE] at hv
        subst hV
        rw [hv]
        clear hv hE hj kbad kbad2 kmuch kok kll
        generalize linesE (nth l k).lines = E at *
        generalize netK l k = Q at *
        unfold cEntry noEntry at *
        repeat' (first | (with_reducible first | refine awp_seq ?_ | refine awp_blockS ?_ | refine awp_blockC ?_ | refine awp_blockR ?_ | refine awp_skip ?_ | refine awp_ret ?_ | refine awp_exit ?_ | refine awp_region ?_ | refine awp_regionD (id := 28) 11 mixed (by decide +kernel) ?_ | refine awp_regionD (id := 30) 9 mixed (by decide +kernel) ?_ | refine awp_condM ?_ | refine And.intro ?_ ?_ | apply gQ_merge | apply gE_merge | exact EqV_w | exact EqE_w | exact EqV_ptr | exact EqE_ptr | exact EqV_msl | exact EqE_msl | exact EqV_agg | exact EqE_agg | exact EqV_fn | exact EqE_fn | exact EqV_gd | exact EqE_gd | refine gM_splitN ?_ ?_ | refine gM_split ?_ ?_ |  refine condM_splitDN ?_ ?_ | refine condM_splitD ?_ ?_ | refine condM_splitN ?_ ?_ | refine condM_split ?_ ?_ | refine condM_any ?_ ?_ | refine cw (c1) ?_ | intro _) | (simp [*, hlt, hz, cEntry, repl]) | (refine cw_eq (c1) ?_ ?_; (· (simp [*]; done))))
        all_goals first | exact inI64 (by omega) (by omega) | omega | rfl
    · have hke : k = l.length := by omega
      subst hke
      have kj := keep hj
      clear hj kbad kbad2 kmuch kok kll
      repeat' (first | (with_reducible first | refine awp_seq ?_ | refine awp_blockS ?_ | refine awp_blockC ?_ | refine awp_blockR ?_ | refine awp_skip ?_ | refine awp_ret ?_ | refine awp_exit ?_ | refine awp_region ?_ | refine awp_regionD (id := 28) 11 mixed (by decide +kernel) ?_ | refine awp_regionD (id := 30) 9 mixed (by decide +kernel) ?_ | refine awp_condM ?_ | refine And.intro ?_ ?_ | apply gQ_merge | apply gE_merge | exact EqV_w | exact EqE_w | exact EqV_ptr | exact EqE_ptr | exact EqV_msl | exact EqE_msl | exact EqV_agg | exact EqE_agg | exact EqV_fn | exact EqE_fn | exact EqV_gd | exact EqE_gd | refine gM_splitN ?_ ?_ | refine gM_split ?_ ?_ |  refine condM_splitDN ?_ ?_ | refine condM_splitD ?_ ?_ | refine condM_splitN ?_ ?_ | refine condM_split ?_ ?_ | refine condM_any ?_ ?_ | intro _) | (simp [*]))
      all_goals (refine finW_intro () ?_ ?_; (· exact kj); (refine le_of ?_ ?_ <;> first | trivial | (simp [*]; done)))
  · have hE : errL l = 0 := errL_zero.2 hf
    have hNl := netK_len l l.length (Nat.le_refl _) hf
    have c3 := rNoteErr_c note hn
    have hidx : (l.length : Int) - 1 = ((l.length - 1 : Nat) : Int) := by omega
    have hil : l.length - 1 < l.length := by omega
    clear kll kbad
    by_cases hz : noteE note = 0
    · have kb := keep (sumE_bnd l hf)
      have kf := keep hf
      have hmuch := (show errL l = 0 → noteE note = 0 → muchB (outN l note) = true → V = noEntry ∧ v = 8 from kmuch) hE hz
      have hok := (show errL l = 0 → noteE note = 0 → muchB (outN l note) = false → V = outN l note ∧ v = 0 from kok) hE hz
      clear kmuch kok kbad2 hE hf
      rw [hz] at c3
      unfold outN at hmuch hok
      have hlk2 : ∀ q, sumE q l l.length = (fun n => sumE n l l.length) q := fun q => rfl
      generalize (fun n => sumE n l l.length) = f at *
      generalize kM (netK l l.length) = N at *
      have kM1 := keep hmuch
      have kO1 := keep hok
      have kob := keep (outK_len f N)
      have kos := keep (outK_succ f N)
      have klk := keep hlk2
      clear hmuch hok hlk2 hz
      repeat' (first | (with_reducible first | refine awp_seq ?_ | refine awp_blockS ?_ | refine awp_blockC ?_ | refine awp_blockR ?_ | refine awp_skip ?_ | refine awp_ret ?_ | refine awp_exit ?_ | refine awp_region ?_ | refine awp_regionD (id := 28) 11 mixed (by decide +kernel) ?_ | refine awp_regionD (id := 30) 9 mixed (by decide +kernel) ?_ | refine awp_condM ?_ | refine And.intro ?_ ?_ | apply gQ_merge | apply gE_merge | exact EqV_w | exact EqE_w | exact EqV_ptr | exact EqE_ptr | exact EqV_msl | exact EqE_msl | exact EqV_agg | exact EqE_agg | exact EqV_fn | exact EqE_fn | exact EqV_gd | exact EqE_gd | refine gM_splitN ?_ ?_ | refine gM_split ?_ ?_ |  refine condM_splitDN ?_ ?_ | refine condM_splitD ?_ ?_ | refine condM_splitN ?_ ?_ | refine condM_split ?_ ?_ | refine condM_any ?_ ?_ | refine cw (c3) ?_ | intro _) | (simp [*, hidx, hil]) | (refine cw_eq (c3) ?_ ?_; (· (simp [*]; done))))
      all_goals try first | exact inI64 (by omega) (by omega) | omega
      refine awp_for4 4 (fun (k : Nat) => k ≤ N.length) [0, 4, 6, 11] (fun (k : Nat) => [(12, .w false false (.int .i64 k))]) [0, 1] (fun (k : Nat) => [(2, [.w false false (.int .i64 (nth l (l.length - 1)).date), .w false false (.str note), .msl 3 ((outK f N k).length * 2) 2 0 (outK f N k).length]), (3, lA (outK f N k))]) (fun (k : Nat) => N.length - k) (fun (_u : Unit) => True) [4, 11] (fun (_u : Unit) => []) [0] (fun (_u : Unit) => [(2, [.w false false (.int .i64 (nth l (l.length - 1)).date), .w false false (.str note), .w true false (.sl (outK f N N.length).length (cLines (outK f N N.length)))])]) (0) (Nat.zero_le _) (le_gen [] (by simp) (by simp)) (fun k hk => ?_) (fun _u hf => ?_)
      · by_cases hlt : k < N.length
        · have hg := stA_get N k hlt
          have hlen := (show ∀ k, (outK f N k).length ≤ k from kob) k
          have hsucc := (show ∀ k, outK f N (k + 1) = addL (outK f N k) (nth N k) (f (nth N k)) from kos) k
          have hq := (show ∀ q, sumE q l l.length = f q from klk) (nth N k)
          have kbn := keep (fun i hi => (show ∀ n k, k ≤ l.length → -(12000000000 * (k : Int)) ≤ sumE n l k ∧ sumE n l k ≤ 12000000000 * (k : Int) from kb) (nth N k) i hi)
          clear kb kM1 kO1 kob kos klk c3
          generalize outK f N k = ls at *
          generalize hy : f (nth N k) = y at *
          generalize nth N k = nm at *
          have kss := keep hsucc
          have kq := keep hq
          clear hsucc hq
          repeat' (first | (with_reducible first | refine awp_seq ?_ | refine awp_blockS ?_ | refine awp_blockC ?_ | refine awp_blockR ?_ | refine awp_skip ?_ | refine awp_ret ?_ | refine awp_exit ?_ | refine awp_region ?_ | refine awp_regionD (id := 28) 11 mixed (by decide +kernel) ?_ | refine awp_regionD (id := 30) 9 mixed (by decide +kernel) ?_ | refine awp_condM ?_ | refine And.intro ?_ ?_ | apply gQ_merge | apply gE_merge | exact EqV_w | exact EqE_w | exact EqV_ptr | exact EqE_ptr | exact EqV_msl | exact EqE_msl | exact EqV_agg | exact EqE_agg | exact EqV_fn | exact EqE_fn | exact EqV_gd | exact EqE_gd | refine gM_splitN ?_ ?_ | refine gM_split ?_ ?_ |  refine condM_splitDN ?_ ?_ | refine condM_splitD ?_ ?_ | refine condM_splitN ?_ ?_ | refine condM_split ?_ ?_ | refine condM_any ?_ ?_ | intro _) | (simp [*, hlt, hg]))
          all_goals try first | exact inI64 (by omega) (by omega) | omega
          refine awp_for3 (fun (i : Nat) => i ≤ l.length) [0, 4, 6, 11, 12] (fun (i : Nat) => [(14, .w false false (.int .i64 i)), (13, .w false false (.int .i64 (sumE nm l i)))]) [0, 1, 2, 3] (fun (i : Nat) => []) (fun (i : Nat) => l.length - i) (fun (_u : Unit) => True) [0, 4, 6, 11, 12] (fun (_u : Unit) => [(13, .w false false (.int .i64 (sumE nm l l.length)))]) [0, 1, 2, 3] (fun (_u : Unit) => []) (0) (Nat.zero_le _) (by simp) (by simp) (fun i hk => ?_) (fun _u hf => ?_)
          · by_cases hil2 : i < l.length
            · have hle := (show ∀ j, j < l.length → linesE (nth l j).lines = 0 from kf) i hil2
              have hb := (show ∀ i, i ≤ l.length → -(12000000000 * (i : Int)) ≤ sumE nm l i ∧ sumE nm l i ≤ 12000000000 * (i : Int) from kbn) i hk
              have hp := putS_12 nm hle
              have c4 := rPut_c (nth l i) nm (linesIn_of hle)
              have ks := keep (show sumE nm l (i + 1) = sumE nm l i + putS nm (nth l i).lines from rfl)
              clear kbn kf hle kss kq
              generalize sumE nm l i = S at *
              generalize putS nm (nth l i).lines = p at *
              unfold cEntry at c4
              repeat' (first | (with_reducible first | refine awp_seq ?_ | refine awp_blockS ?_ | refine awp_blockC ?_ | refine awp_blockR ?_ | refine awp_skip ?_ | refine awp_ret ?_ | refine awp_exit ?_ | refine awp_region ?_ | refine awp_regionD (id := 28) 11 mixed (by decide +kernel) ?_ | refine awp_regionD (id := 30) 9 mixed (by decide +kernel) ?_ | refine awp_condM ?_ | refine And.intro ?_ ?_ | apply gQ_merge | apply gE_merge | exact EqV_w | exact EqE_w | exact EqV_ptr | exact EqE_ptr | exact EqV_msl | exact EqE_msl | exact EqV_agg | exact EqE_agg | exact EqV_fn | exact EqE_fn | exact EqV_gd | exact EqE_gd | refine gM_splitN ?_ ?_ | refine gM_split ?_ ?_ |  refine condM_splitDN ?_ ?_ | refine condM_splitD ?_ ?_ | refine condM_splitN ?_ ?_ | refine condM_split ?_ ?_ | refine condM_any ?_ ?_ | refine cw (c4) ?_ | intro _) | (simp [*, hil2, hlt, hg, cEntry]) | (refine cw_eq (c4) ?_ ?_; (· (simp [*]; done))))
              all_goals try first | exact inI64 (by omega) (by omega) | omega
              all_goals (refine loopK_normal _ _ _ _ _ (i + 1) _ ?_ (by first | omega | (dsimp only; omega) | (simp; omega)) ?_; (· omega); (refine le_of ?_ ?_ <;> first | trivial | (simp [*, (show sumE nm l (i + 1) = _ from ks)]; done)))
            · have hke : i = l.length := by omega
              subst hke
              clear kbn kf kss kq
              repeat' (first | (with_reducible first | refine awp_seq ?_ | refine awp_blockS ?_ | refine awp_blockC ?_ | refine awp_blockR ?_ | refine awp_skip ?_ | refine awp_ret ?_ | refine awp_exit ?_ | refine awp_region ?_ | refine awp_regionD (id := 28) 11 mixed (by decide +kernel) ?_ | refine awp_regionD (id := 30) 9 mixed (by decide +kernel) ?_ | refine awp_condM ?_ | refine And.intro ?_ ?_ | apply gQ_merge | apply gE_merge | exact EqV_w | exact EqE_w | exact EqV_ptr | exact EqE_ptr | exact EqV_msl | exact EqE_msl | exact EqV_agg | exact EqE_agg | exact EqV_fn | exact EqE_fn | exact EqV_gd | exact EqE_gd | refine gM_splitN ?_ ?_ | refine gM_split ?_ ?_ |  refine condM_splitDN ?_ ?_ | refine condM_splitD ?_ ?_ | refine condM_splitN ?_ ?_ | refine condM_split ?_ ?_ | refine condM_any ?_ ?_ | intro _) | (simp [*]))
              all_goals (refine finW_intro () ?_ ?_; (· trivial); (refine le_of ?_ ?_ <;> first | trivial | (simp [*]; done)))
          · clear kbn kf
            rw [show sumE nm l l.length = y from kq]
            by_cases hz : y = 0
            · have ks := keep (show outK f N (k + 1) = ls by rw [show outK f N (k + 1) = _ from kss]; exact if_pos hz)
              clear kss kq
              repeat' (first | (with_reducible first | refine awp_seq ?_ | refine awp_blockS ?_ | refine awp_blockC ?_ | refine awp_blockR ?_ | refine awp_skip ?_ | refine awp_ret ?_ | refine awp_exit ?_ | refine awp_region ?_ | refine awp_regionD (id := 28) 11 mixed (by decide +kernel) ?_ | refine awp_regionD (id := 30) 9 mixed (by decide +kernel) ?_ | refine awp_condM ?_ | refine And.intro ?_ ?_ | apply gQ_merge | apply gE_merge | exact EqV_w | exact EqE_w | exact EqV_ptr | exact EqE_ptr | exact EqV_msl | exact EqE_msl | exact EqV_agg | exact EqE_agg | exact EqV_fn | exact EqE_fn | exact EqV_gd | exact EqE_gd | refine gM_splitN ?_ ?_ | refine gM_split ?_ ?_ |  refine condM_splitDN ?_ ?_ | refine condM_splitD ?_ ?_ | refine condM_splitN ?_ ?_ | refine condM_split ?_ ?_ | refine condM_any ?_ ?_ | intro _) | (simp [*, hz]))
              all_goals try first | exact inI64 (by omega) (by omega) | omega
              all_goals (refine loopK_normal _ _ _ _ _ (k + 1) _ ?_ (by first | omega | (dsimp only; omega) | (simp; omega)) ?_; (· omega); (refine le_gen [] ?_ ?_ <;> first | trivial | (simp [*, (show outK f N (k + 1) = _ from ks)]; done)))
            · have ks := keep (show outK f N (k + 1) = ls ++ [⟨nm, y⟩] by rw [show outK f N (k + 1) = _ from kss]; exact if_neg hz)
              clear kss kq
              repeat' (first | (with_reducible first | refine awp_seq ?_ | refine awp_blockS ?_ | refine awp_blockC ?_ | refine awp_blockR ?_ | refine awp_skip ?_ | refine awp_ret ?_ | refine awp_exit ?_ | refine awp_region ?_ | refine awp_regionD (id := 28) 11 mixed (by decide +kernel) ?_ | refine awp_regionD (id := 30) 9 mixed (by decide +kernel) ?_ | refine awp_condM ?_ | refine And.intro ?_ ?_ | apply gQ_merge | apply gE_merge | exact EqV_w | exact EqE_w | exact EqV_ptr | exact EqE_ptr | exact EqV_msl | exact EqE_msl | exact EqV_agg | exact EqE_agg | exact EqV_fn | exact EqE_fn | exact EqV_gd | exact EqE_gd | refine gM_splitN ?_ ?_ | refine gM_split ?_ ?_ |  refine condM_splitDN ?_ ?_ | refine condM_splitD ?_ ?_ | refine condM_splitN ?_ ?_ | refine condM_split ?_ ?_ | refine condM_any ?_ ?_ | intro _) | (simp [*, hlt, hg, hz]))
              all_goals try first | exact inI64 (by omega) (by omega) | omega
              all_goals (refine loopK_normal _ _ _ _ _ (k + 1) _ ?_ (by first | omega | (dsimp only; omega) | (simp; omega)) ?_; (· omega); (refine le_gen [] ?_ ?_ <;> first | trivial | (simp [*, (show outK f N (k + 1) = _ from ks), Nat.add_mul]; done)))
        · have hke : k = N.length := by omega
          subst hke
          clear kb kM1 kO1 kob kos klk c3 kf
          repeat' (first | (with_reducible first | refine awp_seq ?_ | refine awp_blockS ?_ | refine awp_blockC ?_ | refine awp_blockR ?_ | refine awp_skip ?_ | refine awp_ret ?_ | refine awp_exit ?_ | refine awp_region ?_ | refine awp_regionD (id := 28) 11 mixed (by decide +kernel) ?_ | refine awp_regionD (id := 30) 9 mixed (by decide +kernel) ?_ | refine awp_condM ?_ | refine And.intro ?_ ?_ | apply gQ_merge | apply gE_merge | exact EqV_w | exact EqE_w | exact EqV_ptr | exact EqE_ptr | exact EqV_msl | exact EqE_msl | exact EqV_agg | exact EqE_agg | exact EqV_fn | exact EqE_fn | exact EqV_gd | exact EqE_gd | refine gM_splitN ?_ ?_ | refine gM_split ?_ ?_ |  refine condM_splitDN ?_ ?_ | refine condM_splitD ?_ ?_ | refine condM_splitN ?_ ?_ | refine condM_split ?_ ?_ | refine condM_any ?_ ?_ | intro _) | (simp [*]))
          all_goals (refine finW_intro () ?_ ?_; (· trivial); (refine le_gen [3] ?_ ?_ <;> first | trivial | (simp [*]; done)))
      · have hlen := (show ∀ k, (outK f N k).length ≤ k from kob) N.length
        have hmuch := (show muchB ⟨(nth l (l.length - 1)).date, note, outK f N N.length⟩ = true → V = noEntry ∧ v = 8 from kM1)
        have hok := (show muchB ⟨(nth l (l.length - 1)).date, note, outK f N N.length⟩ = false → V = ⟨(nth l (l.length - 1)).date, note, outK f N N.length⟩ ∧ v = 0 from kO1)
        clear kb kM1 kO1 kob kos klk c3 kf
        generalize outK f N N.length = ls at *
        have c5 := tooMuch_c ⟨(nth l (l.length - 1)).date, note, ls⟩ (by dsimp only; omega)
        unfold cEntry at c5
        dsimp only at c5
        cases hm : muchB ⟨(nth l (l.length - 1)).date, note, ls⟩ with
        | true =>
          obtain ⟨rfl, rfl⟩ := hmuch hm
          rw [hm] at c5
          clear hmuch hok hm
          unfold cEntry noEntry at *
          repeat' (first | (with_reducible first | refine awp_seq ?_ | refine awp_blockS ?_ | refine awp_blockC ?_ | refine awp_blockR ?_ | refine awp_skip ?_ | refine awp_ret ?_ | refine awp_exit ?_ | refine awp_region ?_ | refine awp_regionD (id := 28) 11 mixed (by decide +kernel) ?_ | refine awp_regionD (id := 30) 9 mixed (by decide +kernel) ?_ | refine awp_condM ?_ | refine And.intro ?_ ?_ | apply gQ_merge | apply gE_merge | exact EqV_w | exact EqE_w | exact EqV_ptr | exact EqE_ptr | exact EqV_msl | exact EqE_msl | exact EqV_agg | exact EqE_agg | exact EqV_fn | exact EqE_fn | exact EqV_gd | exact EqE_gd | refine gM_splitN ?_ ?_ | refine gM_split ?_ ?_ |  refine condM_splitDN ?_ ?_ | refine condM_splitD ?_ ?_ | refine condM_splitN ?_ ?_ | refine condM_split ?_ ?_ | refine condM_any ?_ ?_ | refine cw (c5) ?_ | intro _) | (simp [*, repl]) | (refine cw_eq (c5) ?_ ?_; (· (simp [*]; done))))
          all_goals rfl
        | false =>
          obtain ⟨rfl, rfl⟩ := hok hm
          rw [hm] at c5
          clear hmuch hok hm
          unfold cEntry at *
          repeat' (first | (with_reducible first | refine awp_seq ?_ | refine awp_blockS ?_ | refine awp_blockC ?_ | refine awp_blockR ?_ | refine awp_skip ?_ | refine awp_ret ?_ | refine awp_exit ?_ | refine awp_region ?_ | refine awp_regionD (id := 28) 11 mixed (by decide +kernel) ?_ | refine awp_regionD (id := 30) 9 mixed (by decide +kernel) ?_ | refine awp_condM ?_ | refine And.intro ?_ ?_ | apply gQ_merge | apply gE_merge | exact EqV_w | exact EqE_w | exact EqV_ptr | exact EqE_ptr | exact EqV_msl | exact EqE_msl | exact EqV_agg | exact EqE_agg | exact EqV_fn | exact EqE_fn | exact EqV_gd | exact EqE_gd | refine gM_splitN ?_ ?_ | refine gM_split ?_ ?_ |  refine condM_splitDN ?_ ?_ | refine condM_splitD ?_ ?_ | refine condM_splitN ?_ ?_ | refine condM_split ?_ ?_ | refine condM_any ?_ ?_ | refine cw (c5) ?_ | intro _) | (simp [*, repl]) | (refine cw_eq (c5) ?_ ?_; (· (simp [*]; done))))
    · obtain ⟨hV, hv⟩ := (show errL l = 0 → noteE note ≠ 0 → V = noEntry ∧ v = noteE note from kbad2) hE hz
      subst hV
      rw [hv]
      clear hv hE kbad2 kmuch kok hf
      generalize noteE note = E at *
      generalize netK l l.length = M at *
      unfold cEntry noEntry at *
      repeat' (first | (with_reducible first | refine awp_seq ?_ | refine awp_blockS ?_ | refine awp_blockC ?_ | refine awp_blockR ?_ | refine awp_skip ?_ | refine awp_ret ?_ | refine awp_exit ?_ | refine awp_region ?_ | refine awp_regionD (id := 28) 11 mixed (by decide +kernel) ?_ | refine awp_regionD (id := 30) 9 mixed (by decide +kernel) ?_ | refine awp_condM ?_ | refine And.intro ?_ ?_ | apply gQ_merge | apply gE_merge | exact EqV_w | exact EqE_w | exact EqV_ptr | exact EqE_ptr | exact EqV_msl | exact EqE_msl | exact EqV_agg | exact EqE_agg | exact EqV_fn | exact EqE_fn | exact EqV_gd | exact EqE_gd | refine gM_splitN ?_ ?_ | refine gM_split ?_ ?_ |  refine condM_splitDN ?_ ?_ | refine condM_splitD ?_ ?_ | refine condM_splitN ?_ ?_ | refine condM_split ?_ ?_ | refine condM_any ?_ ?_ | refine cw (c3) ?_ | intro _) | (simp [*, hz, repl]) | (refine cw_eq (c3) ?_ ?_; (· (simp [*]; done))))
      all_goals first | exact inI64 (by omega) (by omega) | omega | rfl
end Go.Proofs.YtpjhpmpbdfeajaaGreatDoor

