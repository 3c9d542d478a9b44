/- Contracts of functions for this claim: lemmas alone. -/
import Derived.Test.YtpjhpmpbdfeajaaGreatDoorP301
set_option linter.unusedSimpArgs false
set_option linter.unusedVariables false
namespace Go.Proofs.YtpjhpmpbdfeajaaGreatDoor
open Go Go.Fi
set_option maxRecDepth 20000
attribute [-simp] cEntries_drop2

/-! ### the program's Netted -/
theorem mapSI : mapT Tryz.prog 106 = some (.string, .int .i64 0) := by kernel_rfl
theorem stA_get (l : List ByteArray) (k : Nat) (h : k < l.length) : nthA (stA l) k = .w false false (.str (nth l k)) := by
  simp [nthA, stA, strP, nth, h]
def headN (l : List Entry) : Int := firstS [errUnless (decide ((0 : Int) < (l.length : Int))) 10, errUnless (decide ((l.length : Int) ≤ 100)) 8]
theorem netted_head (l : List Entry) (note : ByteArray) (h : ¬ headN l = 0) : RealCall Tryz.prog 25 [.sl l.length (cEntries l), .str note] (.tup [.agg (cEntry noEntry), .int .i64 (headN l)]) false := by
  have c2 := first2_c (errUnless (decide ((0 : Int) < (l.length : Int))) 10) (errUnless (decide ((l.length : Int) ≤ 100)) 8)
  change RealCall _ _ _ (.int .i64 (headN l)) true at c2
  generalize headN l = E at *
  unfold cEntry noEntry
  refine realcall_intro Tryz.func25 (by kernel_rfl) rfl (Nat.le_of_ble_eq_true (by kernel_rfl)) ?_
  simp only [Tryz.results25, Tryz.ntmps25]
  repeat' (first | (with_reducible first | refine awp_seq ?_ | refine awp_blockS ?_ | refine awp_blockC ?_ | refine awp_blockR ?_ | refine awp_skip ?_ | refine awp_ret ?_ | refine awp_exit ?_ | refine awp_region ?_ | refine awp_condM ?_ | refine And.intro ?_ ?_ | apply gQ_merge | apply gE_merge | exact EqV_w | exact EqE_w | exact EqV_ptr | exact EqE_ptr | exact EqV_msl | exact EqE_msl | exact EqV_agg | exact EqE_agg | exact EqV_fn | exact EqE_fn | exact EqV_gd | exact EqE_gd | refine gM_splitN ?_ ?_ | refine gM_split ?_ ?_ |  refine condM_splitDN ?_ ?_ | refine condM_splitD ?_ ?_ | refine condM_splitN ?_ ?_ | refine condM_split ?_ ?_ | refine condM_any ?_ ?_ | refine cw (c2) ?_ | refine cw (unless_c _ _) ?_ | intro _) | (simp [*, h, repl]) | (refine cw_eq (c2) ?_ ?_; (· (simp [*]; done))) | (refine cw_eq (unless_c _ _) ?_ ?_; (· (simp [*]; done))))
  all_goals rfl
end Go.Proofs.YtpjhpmpbdfeajaaGreatDoor
namespace Go.Proofs.YtpjhpmpbdfeajaaGreatDoor
open Go Go.Fi
set_option maxRecDepth 20000
attribute [-simp] cEntries_drop2

def errN (l : List Entry) (note : ByteArray) : Int := if errL l ≠ 0 then errL l else noteE note
set_option maxHeartbeats 16000000 in
theorem netted_main (l : List Entry) (note : ByteArray) (hn : note.size < 1000000) (h0 : 0 < l.length) (h1 : l.length ≤ 100) (hll : ∀ k, k < l.length → (nth l k).lines.length < 1000) (V : Entry) (v : Int)
    (hbad : errN l note ≠ 0 → V = noEntry ∧ v = errN l note)
    (hcl : errN l note = 0 → RealCall Tryz.prog 58 [.agg (cEntry (outN l note))] (.tup [.agg (cEntry V), .int .i64 v]) false) :
    RealCall Tryz.prog 25 [.sl l.length (cEntries l), .str note] (.tup [.agg (cEntry V), .int .i64 v]) false := by
  have c2 := first2_c (errUnless (decide ((0 : Int) < (l.length : Int))) 10) (errUnless (decide ((l.length : Int) ≤ 100)) 8)
  have e2 : firstS [errUnless (decide ((0 : Int) < (l.length : Int))) 10, errUnless (decide ((l.length : Int) ≤ 100)) 8] = 0 := by
    rw [decide_eq_true (by omega), decide_eq_true (by omega)]; rfl
  rw [e2] at c2
  clear e2
  have kbad := keep hbad
  have kcl := keep hcl
  clear hbad hcl
  have kll := keep hll
  clear hll
  refine realcall_intro Tryz.func25 (by kernel_rfl) rfl (Nat.le_of_ble_eq_true (by kernel_rfl)) ?_
  simp only [Tryz.results25, Tryz.ntmps25]
  repeat' (first | (with_reducible first | refine awp_seq ?_ | refine awp_blockS ?_ | refine awp_blockC ?_ | refine awp_blockR ?_ | refine awp_skip ?_ | refine awp_ret ?_ | refine awp_exit ?_ | refine awp_region ?_ | refine awp_condM ?_ | refine And.intro ?_ ?_ | apply gQ_merge | apply gE_merge | exact EqV_w | exact EqE_w | exact EqV_ptr | exact EqE_ptr | exact EqV_msl | exact EqE_msl | exact EqV_agg | exact EqE_agg | exact EqV_fn | exact EqE_fn | exact EqV_gd | exact EqE_gd | refine gM_splitN ?_ ?_ | refine gM_split ?_ ?_ |  refine condM_splitDN ?_ ?_ | refine condM_splitD ?_ ?_ | refine condM_splitN ?_ ?_ | refine condM_split ?_ ?_ | refine condM_any ?_ ?_ | refine cw (c2) ?_ | refine cw (unless_c _ _) ?_ | intro _) | (simp [*, lkV_S mapSI, mapSI, mcell_S]) | (refine cw_eq (c2) ?_ ?_; (· (simp [*]; done))) | (refine cw_eq (unless_c _ _) ?_ ?_; (· (simp [*]; done))))
  clear c2
  refine awp_for4 4 (fun (k : Nat) => k ≤ l.length ∧ (∀ j, j < k → linesE (nth l j).lines = 0)) [0, 1, 4, 8, 35, 36] (fun (k : Nat) => [(37, .w false false (.int .i64 k)), (7, .msl 3 (kM (netK l k)).length 1 0 (kM (netK l k)).length)]) [0] (fun (k : Nat) => [(2, mS (netK l k)), (3, stA (kM (netK l k)))]) (fun (k : Nat) => l.length - k) (fun (_u : Unit) => ∀ j, j < l.length → linesE (nth l j).lines = 0) [0, 1, 4, 8] (fun (_u : Unit) => [(7, .msl 3 (kM (netK l l.length)).length 1 0 (kM (netK l l.length)).length)]) [0] (fun (_u : Unit) => [(2, mS (netK l l.length)), (3, stA (kM (netK l l.length)))]) (0) ⟨Nat.zero_le _, fun j hj => absurd hj (Nat.not_lt_zero _)⟩ (le_gen [] (by simp) (by simp)) (fun k hk => ?_) (fun _u hf => ?_)
  · obtain ⟨hk, hj⟩ := hk
    by_cases hlt : k < l.length
    · have hL := (show ∀ k, k < l.length → (nth l k).lines.length < 1000 from kll) k hlt
      have c1 := linesErr_c (nth l k).lines (by omega)
      rw [linesQ_eq] at c1
      by_cases hz : linesE (nth l k).lines = 0
      · rw [hz] at c1
        obtain ⟨hl12, hamt⟩ := linesE_zero hz
        have hb := netK_bnd l k hk hj
        have hbl := keep (netL_bnd hb (nth l k).lines hamt)
        have hkl := netK_len l k hk hj
        have hnl := keep (netL_len (netK l k) (nth l k).lines)
        have kj : Keep (∀ j, j < k + 1 → linesE (nth l j).lines = 0) := keep (fun j hjk => by
          rcases Nat.lt_or_eq_of_le (Nat.le_of_lt_succ hjk) with h | h
          · exact hj j h
          · rw [h]; exact hz)
        have ks := keep (show netK l (k + 1) = netL (netK l k) (nth l k).lines (nth l k).lines.length from rfl)
        have kamt := keep hamt
        clear hj hb kll hz hamt kbad kcl
        generalize netK l k = Q at *
        repeat' (first | (with_reducible first | refine awp_seq ?_ | refine awp_blockS ?_ | refine awp_blockC ?_ | refine awp_blockR ?_ | refine awp_skip ?_ | refine awp_ret ?_ | refine awp_exit ?_ | refine awp_region ?_ | refine awp_condM ?_ | refine And.intro ?_ ?_ | apply gQ_merge | apply gE_merge | exact EqV_w | exact EqE_w | exact EqV_ptr | exact EqE_ptr | exact EqV_msl | exact EqE_msl | exact EqV_agg | exact EqE_agg | exact EqV_fn | exact EqE_fn | exact EqV_gd | exact EqE_gd | refine gM_splitN ?_ ?_ | refine gM_split ?_ ?_ |  refine condM_splitDN ?_ ?_ | refine condM_splitD ?_ ?_ | refine condM_splitN ?_ ?_ | refine condM_split ?_ ?_ | refine condM_any ?_ ?_ | refine cw (c1) ?_ | intro _) | (simp [*, hlt, cEntry]) | (refine cw_eq (c1) ?_ ?_; (· (simp [*]; done))))
        all_goals try first | exact inI64 (by omega) (by omega) | omega
        refine awp_for4 5 (fun (j : Nat) => j ≤ (nth l k).lines.length) [0, 1, 4, 8, 35, 36, 37, 49, 50] (fun (j : Nat) => [(51, .w false false (.int .i64 j)), (7, .msl 3 (kM (netL Q (nth l k).lines j)).length 1 0 (kM (netL Q (nth l k).lines j)).length)]) [0] (fun (j : Nat) => [(2, mS (netL Q (nth l k).lines j)), (3, stA (kM (netL Q (nth l k).lines j)))]) (fun (j : Nat) => (nth l k).lines.length - j) (fun (_u : Unit) => True) [0, 1, 4, 8, 35, 36, 37] (fun (_u : Unit) => [(7, .msl 3 (kM (netL Q (nth l k).lines (nth l k).lines.length)).length 1 0 (kM (netL Q (nth l k).lines (nth l k).lines.length)).length)]) [0] (fun (_u : Unit) => [(2, mS (netL Q (nth l k).lines (nth l k).lines.length)), (3, stA (kM (netL Q (nth l k).lines (nth l k).lines.length)))]) (0) (Nat.zero_le _) (le_gen [] (by simp) (by simp)) (fun j hk => ?_) (fun _u hf => ?_)
        · by_cases hjl : j < (nth l k).lines.length
          · have hb := (show ∀ j, j ≤ (nth l k).lines.length → bndM (netL Q (nth l k).lines j) (12000000000 * (k : Int) + 1000000000 * (j : Int)) from hbl) j hk (nth (nth l k).lines j).acc
            have ha := (show ∀ k_1, k_1 < (nth l k).lines.length → -1000000000 ≤ (nth (nth l k).lines k_1).amt ∧ (nth (nth l k).lines k_1).amt ≤ 1000000000 from kamt) j hjl
            have hn2 := (show ∀ j, (kM (netL Q (nth l k).lines j)).length ≤ (kM Q).length + j from hnl) j
            have hN := netL_none (Q := Q) (ls := (nth l k).lines) (j := j)
            have hS := fun x => netL_some (Q := Q) (ls := (nth l k).lines) (j := j) (x := x)
            clear hbl kamt hnl ks kj c1
            generalize netL Q (nth l k).lines j = R at *
            cases hlk : lookM R (nth (nth l k).lines j).acc with
            | none =>
              obtain ⟨e1, e2⟩ := hN hlk
              have k1 := keep e1
              have k2 := keep e2
              rw [hlk] at hb
              clear hN hS e1 e2
              repeat' (first | (with_reducible first | refine awp_seq ?_ | refine awp_blockS ?_ | refine awp_blockC ?_ | refine awp_blockR ?_ | refine awp_skip ?_ | refine awp_ret ?_ | refine awp_exit ?_ | refine awp_region ?_ | refine awp_condM ?_ | refine And.intro ?_ ?_ | apply gQ_merge | apply gE_merge | exact EqV_w | exact EqE_w | exact EqV_ptr | exact EqE_ptr | exact EqV_msl | exact EqE_msl | exact EqV_agg | exact EqE_agg | exact EqV_fn | exact EqE_fn | exact EqV_gd | exact EqE_gd | refine gM_splitN ?_ ?_ | refine gM_split ?_ ?_ |  refine condM_splitDN ?_ ?_ | refine condM_splitD ?_ ?_ | refine condM_splitN ?_ ?_ | refine condM_split ?_ ?_ | refine condM_any ?_ ?_ | intro _) | (simp [*, hjl, cLine, hlk, lkV_S mapSI, mapSI]))
              all_goals try first | exact inI64 (by omega) (by omega) | omega
              all_goals (refine loopK_normal _ _ _ _ _ (j + 1) _ ?_ (by first | omega | (dsimp only; omega) | (simp; omega)) ?_; (· omega); (refine le_gen [] ?_ ?_ <;> first | trivial | (simp [*, (show netL Q (nth l k).lines (j + 1) = _ from k1), (show kM (putM _ _ _) = _ from k2)]; done)))
            | some x =>
              obtain ⟨e1, e2⟩ := hS x hlk
              have k1 := keep e1
              have k2 := keep e2
              rw [hlk] at hb
              simp only [Option.getD_some] at hb
              clear hN hS e1 e2
              repeat' (first | (with_reducible first | refine awp_seq ?_ | refine awp_blockS ?_ | refine awp_blockC ?_ | refine awp_blockR ?_ | refine awp_skip ?_ | refine awp_ret ?_ | refine awp_exit ?_ | refine awp_region ?_ | refine awp_condM ?_ | refine And.intro ?_ ?_ | apply gQ_merge | apply gE_merge | exact EqV_w | exact EqE_w | exact EqV_ptr | exact EqE_ptr | exact EqV_msl | exact EqE_msl | exact EqV_agg | exact EqE_agg | exact EqV_fn | exact EqE_fn | exact EqV_gd | exact EqE_gd | refine gM_splitN ?_ ?_ | refine gM_split ?_ ?_ |  refine condM_splitDN ?_ ?_ | refine condM_splitD ?_ ?_ | refine condM_splitN ?_ ?_ | refine condM_split ?_ ?_ | refine condM_any ?_ ?_ | intro _) | (simp [*, hjl, cLine, hlk, lkV_S mapSI, mapSI]))
              all_goals try first | exact inI64 (by omega) (by omega) | omega
              all_goals (refine loopK_normal _ _ _ _ _ (j + 1) _ ?_ (by first | omega | (dsimp only; omega) | (simp; omega)) ?_; (· omega); (refine le_gen [] ?_ ?_ <;> first | trivial | (simp [*, (show netL Q (nth l k).lines (j + 1) = _ from k1), (show kM (putM _ _ _) = _ from k2)]; done)))
          · have hke : j = (nth l k).lines.length := by omega
            subst hke
            clear hbl kamt hnl ks kj c1
            repeat' (first | (with_reducible first | refine awp_seq ?_ | refine awp_blockS ?_ | refine awp_blockC ?_ | refine awp_blockR ?_ | refine awp_skip ?_ | refine awp_ret ?_ | refine awp_exit ?_ | refine awp_region ?_ | refine awp_condM ?_ | refine And.intro ?_ ?_ | apply gQ_merge | apply gE_merge | exact EqV_w | exact EqE_w | exact EqV_ptr | exact EqE_ptr | exact EqV_msl | exact EqE_msl | exact EqV_agg | exact EqE_agg | exact EqV_fn | exact EqE_fn | exact EqV_gd | exact EqE_gd | refine gM_splitN ?_ ?_ | refine gM_split ?_ ?_ |  refine condM_splitDN ?_ ?_ | refine condM_splitD ?_ ?_ | refine condM_splitN ?_ ?_ | refine condM_split ?_ ?_ | refine condM_any ?_ ?_ | intro _) | (simp [*]))
            all_goals (refine finW_intro () ?_ ?_; (· trivial); (refine le_gen [] ?_ ?_ <;> first | trivial | (simp [*]; done)))
        · clear hbl kamt hnl c1
          repeat' (first | (with_reducible first | refine awp_seq ?_ | refine awp_blockS ?_ | refine awp_blockC ?_ | refine awp_blockR ?_ | refine awp_skip ?_ | refine awp_ret ?_ | refine awp_exit ?_ | refine awp_region ?_ | refine awp_condM ?_ | refine And.intro ?_ ?_ | apply gQ_merge | apply gE_merge | exact EqV_w | exact EqE_w | exact EqV_ptr | exact EqE_ptr | exact EqV_msl | exact EqE_msl | exact EqV_agg | exact EqE_agg | exact EqV_fn | exact EqE_fn | exact EqV_gd | exact EqE_gd | refine gM_splitN ?_ ?_ | refine gM_split ?_ ?_ |  refine condM_splitDN ?_ ?_ | refine condM_splitD ?_ ?_ | refine condM_splitN ?_ ?_ | refine condM_split ?_ ?_ | refine condM_any ?_ ?_ | intro _) | (simp [*]))
          all_goals try first | exact inI64 (by omega) (by omega) | omega
          all_goals (refine loopK_normal _ _ _ _ _ (k + 1) _ ?_ (by first | omega | (dsimp only; omega) | (simp; omega)) ?_; (· exact ⟨by omega, kj⟩); (refine le_gen [] ?_ ?_ <;> first | trivial | (simp [*, (show netK l (k + 1) = _ from ks)]; done)))
      · have hE : errL l = linesE (nth l k).lines := errL_first hlt hj hz
        obtain ⟨hV, hv⟩ := (show errN l note ≠ 0 → V = noEntry ∧ v = errN l note from kbad) (by unfold errN; rw [hE, if_pos hz]; exact hz)
        have hv2 : v = linesE (nth l k).lines := by rw [hv]; unfold errN; rw [hE, if_pos hz]
        subst hV
        rw [hv2]
        clear hv hv2 hE hj kbad kcl kll
        generalize linesE (nth l k).lines = E at *
        generalize netK l k = Q at *
        unfold cEntry noEntry at *
        repeat' (first | (with_reducible first | refine awp_seq ?_ | refine awp_blockS ?_ | refine awp_blockC ?_ | refine awp_blockR ?_ | refine awp_skip ?_ | refine awp_ret ?_ | refine awp_exit ?_ | refine awp_region ?_ | refine awp_condM ?_ | refine And.intro ?_ ?_ | apply gQ_merge | apply gE_merge | exact EqV_w | exact EqE_w | exact EqV_ptr | exact EqE_ptr | exact EqV_msl | exact EqE_msl | exact EqV_agg | exact EqE_agg | exact EqV_fn | exact EqE_fn | exact EqV_gd | exact EqE_gd | refine gM_splitN ?_ ?_ | refine gM_split ?_ ?_ |  refine condM_splitDN ?_ ?_ | refine condM_splitD ?_ ?_ | refine condM_splitN ?_ ?_ | refine condM_split ?_ ?_ | refine condM_any ?_ ?_ | refine cw (c1) ?_ | intro _) | (simp [*, hlt, hz, cEntry, repl]) | (refine cw_eq (c1) ?_ ?_; (· (simp [*]; done))))
        all_goals first | exact inI64 (by omega) (by omega) | omega | rfl
    · have hke : k = l.length := by omega
      subst hke
      have kj := keep hj
      clear hj kbad kcl kll
      repeat' (first | (with_reducible first | refine awp_seq ?_ | refine awp_blockS ?_ | refine awp_blockC ?_ | refine awp_blockR ?_ | refine awp_skip ?_ | refine awp_ret ?_ | refine awp_exit ?_ | refine awp_region ?_ | refine awp_condM ?_ | refine And.intro ?_ ?_ | apply gQ_merge | apply gE_merge | exact EqV_w | exact EqE_w | exact EqV_ptr | exact EqE_ptr | exact EqV_msl | exact EqE_msl | exact EqV_agg | exact EqE_agg | exact EqV_fn | exact EqE_fn | exact EqV_gd | exact EqE_gd | refine gM_splitN ?_ ?_ | refine gM_split ?_ ?_ |  refine condM_splitDN ?_ ?_ | refine condM_splitD ?_ ?_ | refine condM_splitN ?_ ?_ | refine condM_split ?_ ?_ | refine condM_any ?_ ?_ | intro _) | (simp [*]))
      all_goals (refine finW_intro () ?_ ?_; (· exact kj); (refine le_of ?_ ?_ <;> first | trivial | (simp [*]; done)))
  · have hE : errL l = 0 := errL_zero.2 hf
    have hNl := netK_len l l.length (Nat.le_refl _) hf
    have c3 := noteErr_c note hn
    have hidx : (l.length : Int) - 1 = ((l.length - 1 : Nat) : Int) := by omega
    have hil : l.length - 1 < l.length := by omega
    clear kll hf
    by_cases hz : noteE note = 0
    · have hcl := (show errN l note = 0 → RealCall Tryz.prog 58 [.agg (cEntry (outN l note))] (.tup [.agg (cEntry V), .int .i64 v]) false from kcl) (by unfold errN; rw [hE, if_neg (by simp)]; exact hz)
      have hlook := netK_look l
      rw [hz] at c3
      unfold outN at hcl
      have hlk : ∀ q, (lookM (netK l l.length) q).getD 0 = sumE q l l.length := fun q => hlook q l.length
      generalize hf0 : (fun n => sumE n l l.length) = f at *
      have hlk2 : ∀ q, (lookM (netK l l.length) q).getD 0 = f q := fun q => by rw [hlk q, ← hf0]
      clear hlk hlook hf0 kcl kbad hE hz
      generalize hN : kM (netK l l.length) = N at *
      clear hN
      generalize netK l l.length = M at *
      have kcl := keep hcl
      have kob := keep (outK_len f N)
      have kos := keep (outK_succ f N)
      clear hcl
      repeat' (first | (with_reducible first | refine awp_seq ?_ | refine awp_blockS ?_ | refine awp_blockC ?_ | refine awp_blockR ?_ | refine awp_skip ?_ | refine awp_ret ?_ | refine awp_exit ?_ | refine awp_region ?_ | refine awp_condM ?_ | refine And.intro ?_ ?_ | apply gQ_merge | apply gE_merge | exact EqV_w | exact EqE_w | exact EqV_ptr | exact EqE_ptr | exact EqV_msl | exact EqE_msl | exact EqV_agg | exact EqE_agg | exact EqV_fn | exact EqE_fn | exact EqV_gd | exact EqE_gd | refine gM_splitN ?_ ?_ | refine gM_split ?_ ?_ |  refine condM_splitDN ?_ ?_ | refine condM_splitD ?_ ?_ | refine condM_splitN ?_ ?_ | refine condM_split ?_ ?_ | refine condM_any ?_ ?_ | refine cw (c3) ?_ | intro _) | (simp [*, hidx, hil]) | (refine cw_eq (c3) ?_ ?_; (· (simp [*]; done))))
      all_goals try first | exact inI64 (by omega) (by omega) | omega
      refine awp_for4 6 (fun (k : Nat) => k ≤ N.length) [4, 8, 17, 94, 95] (fun (k : Nat) => [(96, .w false false (.int .i64 k))]) [0, 2, 3] (fun (k : Nat) => [(4, [.w false false (.int .i64 (nth l (l.length - 1)).date), .w false false (.str note), .msl 5 ((outK f N k).length * 2) 2 0 (outK f N k).length]), (5, lA (outK f N k))]) (fun (k : Nat) => N.length - k) (fun (_u : Unit) => True) [4, 17] (fun (_u : Unit) => []) [0] (fun (_u : Unit) => [(4, [.w false false (.int .i64 (nth l (l.length - 1)).date), .w false false (.str note), .w true false (.sl (outK f N N.length).length (cLines (outK f N N.length)))])]) (0) (Nat.zero_le _) (le_gen [] (by simp) (by simp)) (fun k hk => ?_) (fun _u hf => ?_)
      · by_cases hlt : k < N.length
        · have hg := stA_get N k hlt
          have hlen := (show ∀ k, (outK f N k).length ≤ k from kob) k
          have hsucc := (show ∀ k, outK f N (k + 1) = addL (outK f N k) (nth N k) (f (nth N k)) from kos) k
          clear kcl kob kos c3
          generalize outK f N k = ls at *
          generalize hy : f (nth N k) = y at *
          generalize nth N k = nm at *
          repeat' (first | (with_reducible first | refine awp_regionJ (id := 28) 4 Tryz.func57 (by kernel_rfl) rfl (by decide) rfl ?_ | refine awp_seq ?_ | refine awp_blockS ?_ | refine awp_blockC ?_ | refine awp_blockR ?_ | refine awp_skip ?_ | refine awp_ret ?_ | refine awp_exit ?_ | refine awp_region ?_ | refine awp_condM ?_ | refine And.intro ?_ ?_ | apply gQ_merge | apply gE_merge | exact EqV_w | exact EqE_w | exact EqV_ptr | exact EqE_ptr | exact EqV_msl | exact EqE_msl | exact EqV_agg | exact EqE_agg | exact EqV_fn | exact EqE_fn | exact EqV_gd | exact EqE_gd | refine gM_splitN ?_ ?_ | refine gM_split ?_ ?_ |  refine condM_splitDN ?_ ?_ | refine condM_splitD ?_ ?_ | refine condM_splitN ?_ ?_ | refine condM_split ?_ ?_ | refine condM_any ?_ ?_ | intro _) | (simp [*, hlt, hg, hlk2, hy, lkV_S mapSI]))
          all_goals try first | exact inI64 (by omega) (by omega) | omega
          refine inlM_intro (Nat.le_of_ble_eq_true (by kernel_rfl)) (by simp) rfl ?_
          by_cases hz : y = 0
          · have ks := keep (show outK f N (k + 1) = ls by rw [hsucc]; exact if_pos hz)
            clear hsucc
            repeat' (first | (with_reducible first | refine awp_seq ?_ | refine awp_blockS ?_ | refine awp_blockC ?_ | refine awp_blockR ?_ | refine awp_skip ?_ | refine awp_ret ?_ | refine awp_exit ?_ | refine awp_region ?_ | refine awp_condM ?_ | refine And.intro ?_ ?_ | apply gQ_merge | apply gE_merge | exact EqV_w | exact EqE_w | exact EqV_ptr | exact EqE_ptr | exact EqV_msl | exact EqE_msl | exact EqV_agg | exact EqE_agg | exact EqV_fn | exact EqE_fn | exact EqV_gd | exact EqE_gd | refine gM_splitN ?_ ?_ | refine gM_split ?_ ?_ |  refine condM_splitDN ?_ ?_ | refine condM_splitD ?_ ?_ | refine condM_splitN ?_ ?_ | refine condM_split ?_ ?_ | refine condM_any ?_ ?_ | intro _) | (simp [*, hz]))
            simp [RetA, resL]
            repeat' (first | (with_reducible first | refine awp_seq ?_ | refine awp_blockS ?_ | refine awp_blockC ?_ | refine awp_blockR ?_ | refine awp_skip ?_ | refine awp_ret ?_ | refine awp_exit ?_ | refine awp_region ?_ | refine awp_condM ?_ | refine And.intro ?_ ?_ | apply gQ_merge | apply gE_merge | exact EqV_w | exact EqE_w | exact EqV_ptr | exact EqE_ptr | exact EqV_msl | exact EqE_msl | exact EqV_agg | exact EqE_agg | exact EqV_fn | exact EqE_fn | exact EqV_gd | exact EqE_gd | refine gM_splitN ?_ ?_ | refine gM_split ?_ ?_ |  refine condM_splitDN ?_ ?_ | refine condM_splitD ?_ ?_ | refine condM_splitN ?_ ?_ | refine condM_split ?_ ?_ | refine condM_any ?_ ?_ | intro _) | (simp [*]))
            all_goals try first | exact inI64 (by omega) (by omega) | omega
            all_goals (refine loopK_normal _ _ _ _ _ (k + 1) _ ?_ (by first | omega | (dsimp only; omega) | (simp; omega)) ?_; (· omega); (refine le_gen [] ?_ ?_ <;> first | trivial | (simp [*, (show outK f N (k + 1) = _ from ks)]; done)))
          · have ks := keep (show outK f N (k + 1) = ls ++ [⟨nm, y⟩] by rw [hsucc]; exact if_neg hz)
            clear hsucc
            repeat' (first | (with_reducible first | refine awp_seq ?_ | refine awp_blockS ?_ | refine awp_blockC ?_ | refine awp_blockR ?_ | refine awp_skip ?_ | refine awp_ret ?_ | refine awp_exit ?_ | refine awp_region ?_ | refine awp_condM ?_ | refine And.intro ?_ ?_ | apply gQ_merge | apply gE_merge | exact EqV_w | exact EqE_w | exact EqV_ptr | exact EqE_ptr | exact EqV_msl | exact EqE_msl | exact EqV_agg | exact EqE_agg | exact EqV_fn | exact EqE_fn | exact EqV_gd | exact EqE_gd | refine gM_splitN ?_ ?_ | refine gM_split ?_ ?_ |  refine condM_splitDN ?_ ?_ | refine condM_splitD ?_ ?_ | refine condM_splitN ?_ ?_ | refine condM_split ?_ ?_ | refine condM_any ?_ ?_ | intro _) | (simp [*, hz]))
            all_goals try omega
            simp [RetA, resL]
            repeat' (first | (with_reducible first | refine awp_seq ?_ | refine awp_blockS ?_ | refine awp_blockC ?_ | refine awp_blockR ?_ | refine awp_skip ?_ | refine awp_ret ?_ | refine awp_exit ?_ | refine awp_region ?_ | refine awp_condM ?_ | refine And.intro ?_ ?_ | apply gQ_merge | apply gE_merge | exact EqV_w | exact EqE_w | exact EqV_ptr | exact EqE_ptr | exact EqV_msl | exact EqE_msl | exact EqV_agg | exact EqE_agg | exact EqV_fn | exact EqE_fn | exact EqV_gd | exact EqE_gd | refine gM_splitN ?_ ?_ | refine gM_split ?_ ?_ |  refine condM_splitDN ?_ ?_ | refine condM_splitD ?_ ?_ | refine condM_splitN ?_ ?_ | refine condM_split ?_ ?_ | refine condM_any ?_ ?_ | intro _) | (simp [*]))
            all_goals try first | exact inI64 (by omega) (by omega) | omega
            all_goals (refine loopK_normal _ _ _ _ _ (k + 1) _ ?_ (by first | omega | (dsimp only; omega) | (simp; omega)) ?_; (· omega); (refine le_gen [] ?_ ?_ <;> first | trivial | (simp [*, (show outK f N (k + 1) = _ from ks), Nat.add_mul]; done)))
        · have hke : k = N.length := by omega
          subst hke
          clear kcl kob kos c3
          repeat' (first | (with_reducible first | refine awp_seq ?_ | refine awp_blockS ?_ | refine awp_blockC ?_ | refine awp_blockR ?_ | refine awp_skip ?_ | refine awp_ret ?_ | refine awp_exit ?_ | refine awp_region ?_ | refine awp_condM ?_ | refine And.intro ?_ ?_ | apply gQ_merge | apply gE_merge | exact EqV_w | exact EqE_w | exact EqV_ptr | exact EqE_ptr | exact EqV_msl | exact EqE_msl | exact EqV_agg | exact EqE_agg | exact EqV_fn | exact EqE_fn | exact EqV_gd | exact EqE_gd | refine gM_splitN ?_ ?_ | refine gM_split ?_ ?_ |  refine condM_splitDN ?_ ?_ | refine condM_splitD ?_ ?_ | refine condM_splitN ?_ ?_ | refine condM_split ?_ ?_ | refine condM_any ?_ ?_ | intro _) | (simp [*]))
          all_goals (refine finW_intro () ?_ ?_; (· trivial); (refine le_gen [5] ?_ ?_ <;> first | trivial | (simp [*]; done)))
      · have cl := (show RealCall _ _ _ _ false from kcl)
        have hlen := (show ∀ k, (outK f N k).length ≤ k from kob) N.length
        clear kcl kob kos c3
        generalize outK f N N.length = ls at *
        unfold cEntry at *
        dsimp only at *
        repeat' (first | (with_reducible first | refine awp_seq ?_ | refine awp_blockS ?_ | refine awp_blockC ?_ | refine awp_blockR ?_ | refine awp_skip ?_ | refine awp_ret ?_ | refine awp_exit ?_ | refine awp_region ?_ | refine awp_condM ?_ | refine And.intro ?_ ?_ | apply gQ_merge | apply gE_merge | exact EqV_w | exact EqE_w | exact EqV_ptr | exact EqE_ptr | exact EqV_msl | exact EqE_msl | exact EqV_agg | exact EqE_agg | exact EqV_fn | exact EqE_fn | exact EqV_gd | exact EqE_gd | refine gM_splitN ?_ ?_ | refine gM_split ?_ ?_ |  refine condM_splitDN ?_ ?_ | refine condM_splitD ?_ ?_ | refine condM_splitN ?_ ?_ | refine condM_split ?_ ?_ | refine condM_any ?_ ?_ | refine cw (cl) ?_ | intro _) | (simp [*, repl]) | (refine cw_eq (cl) ?_ ?_; (· (simp [*]; done))))
    · obtain ⟨hV, hv⟩ := (show errN l note ≠ 0 → V = noEntry ∧ v = errN l note from kbad) (by unfold errN; rw [hE, if_neg (by simp)]; exact hz)
      have hv2 : v = noteE note := by rw [hv]; unfold errN; rw [hE, if_neg (by simp)]
      subst hV
      rw [hv2]
      clear hv hv2 hE kbad kcl
      generalize noteE note = E at *
      generalize netK l l.length = M at *
      unfold cEntry noEntry at *
      repeat' (first | (with_reducible first | refine awp_seq ?_ | refine awp_blockS ?_ | refine awp_blockC ?_ | refine awp_blockR ?_ | refine awp_skip ?_ | refine awp_ret ?_ | refine awp_exit ?_ | refine awp_region ?_ | refine awp_condM ?_ | refine And.intro ?_ ?_ | apply gQ_merge | apply gE_merge | exact EqV_w | exact EqE_w | exact EqV_ptr | exact EqE_ptr | exact EqV_msl | exact EqE_msl | exact EqV_agg | exact EqE_agg | exact EqV_fn | exact EqE_fn | exact EqV_gd | exact EqE_gd | refine gM_splitN ?_ ?_ | refine gM_split ?_ ?_ |  refine condM_splitDN ?_ ?_ | refine condM_splitD ?_ ?_ | refine condM_splitN ?_ ?_ | refine condM_split ?_ ?_ | refine condM_any ?_ ?_ | refine cw (c3) ?_ | intro _) | (simp [*, hz, repl]) | (refine cw_eq (c3) ?_ ?_; (· (simp [*]; done))))
      all_goals first | exact inI64 (by omega) (by omega) | omega | rfl
end Go.Proofs.YtpjhpmpbdfeajaaGreatDoor

