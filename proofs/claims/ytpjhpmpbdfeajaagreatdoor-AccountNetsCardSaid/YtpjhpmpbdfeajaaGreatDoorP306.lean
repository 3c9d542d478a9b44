/- Contracts of functions for this claim: lemmas alone. -/
import Derived.Test.YtpjhpmpbdfeajaaGreatDoorP303
import Derived.Test.YtpjhpmpbdfeajaaGreatDoorP305
import Derived.Test.YtpjhpmpbdfeajaaGreatDoorP32
import Derived.Test.YtpjhpmpbdfeajaaGreatDoorP26
import Derived.Test.YtpjhpmpbdfeajaaGreatDoorP29
set_option linter.unusedSimpArgs false
set_option linter.unusedVariables false
namespace Go.Proofs.YtpjhpmpbdfeajaaGreatDoor
open Go Go.Fi
set_option maxRecDepth 20000
attribute [-simp] cEntries_drop2

/-! ### netted: both texts; reversed: both texts; guards and copies -/
def shortsB (l : List Entry) : Bool := (!((decide (12 < (l.length : Int)) && decide ((l.length : Int) ≤ 100)) || decide (102 < (l.length : Int)))) && l.all shortB
set_option maxHeartbeats 4000000 in
theorem shorts_c (m : List Entry) : RealCall Tryz.prog 24 [.sl m.length (cEntries m)] (.bool (shortsB m)) true := by
  unfold shortsB
  have hA : m.all shortB = allD shortB m 0 := rfl
  rw [hA]
  generalize hA' : allD shortB m 0 = A
  have kA := keep hA'
  clear hA hA'
  by_cases h : (12 < (m.length : Int) ∧ (m.length : Int) ≤ 100) ∨ 102 < (m.length : Int)
  · have e : ((!((decide (12 < (m.length : Int)) && decide ((m.length : Int) ≤ 100)) || decide (102 < (m.length : Int)))) && A) = false := by
      rcases h with ⟨h1, h2⟩ | h1
      · simp [h1, h2]
      · simp [h1]
    rw [e]
    clear e
    refine realcall_intro Tryz.func24 (by kernel_rfl) rfl (Nat.le_of_ble_eq_true (by kernel_rfl)) ?_
    simp only [Tryz.results24, Tryz.ntmps24]
    repeat' (first | (with_reducible first | refine awp_seq ?_ | refine awp_blockS ?_ | refine awp_blockC ?_ | refine awp_blockR ?_ | refine awp_skip ?_ | refine awp_ret ?_ | refine awp_exit ?_ | refine awp_region ?_ | refine awp_condM ?_ | refine And.intro ?_ ?_ | apply gQ_merge | apply gE_merge | exact EqV_w | exact EqE_w | exact EqV_ptr | exact EqE_ptr | exact EqV_msl | exact EqE_msl | exact EqV_agg | exact EqE_agg | exact EqV_fn | exact EqE_fn | exact EqV_gd | exact EqE_gd | refine gM_splitN ?_ ?_ | refine gM_split ?_ ?_ |  refine condM_splitDN ?_ ?_ | refine condM_splitD ?_ ?_ | refine condM_splitN ?_ ?_ | refine condM_split ?_ ?_ | refine condM_any ?_ ?_ | intro _) | (simp [*]))
    all_goals (rename_i hc; exfalso; simp at hc; omega)
  · have h1 : (!((decide (12 < (m.length : Int)) && decide ((m.length : Int) ≤ 100)) || decide (102 < (m.length : Int)))) = true := by
      simp; omega
    rw [h1, Bool.true_and]
    clear h1
    have hml : m.length < 1000 := by omega
    have h2 : ((12 < (m.length : Int)) ∧ ¬ (m.length : Int) ≤ 100 ∧ ¬ 102 < (m.length : Int)) ∨ (¬ (12 < (m.length : Int)) ∧ ¬ 102 < (m.length : Int)) := by omega
    clear h
    rcases h2 with ⟨q1, q2, q3⟩ | ⟨q1, q3⟩
    all_goals
      refine realcall_intro Tryz.func24 (by kernel_rfl) rfl (Nat.le_of_ble_eq_true (by kernel_rfl)) ?_
      simp only [Tryz.results24, Tryz.ntmps24]
      repeat' (first | (with_reducible first | refine awp_seq ?_ | refine awp_blockS ?_ | refine awp_blockC ?_ | refine awp_blockR ?_ | refine awp_skip ?_ | refine awp_ret ?_ | refine awp_exit ?_ | refine awp_region ?_ | refine awp_condM ?_ | refine And.intro ?_ ?_ | apply gQ_merge | apply gE_merge | exact EqV_w | exact EqE_w | exact EqV_ptr | exact EqE_ptr | exact EqV_msl | exact EqE_msl | exact EqV_agg | exact EqE_agg | exact EqV_fn | exact EqE_fn | exact EqV_gd | exact EqE_gd | refine gM_splitN ?_ ?_ | refine gM_split ?_ ?_ |  refine condM_splitDN ?_ ?_ | refine condM_splitD ?_ ?_ | refine condM_splitN ?_ ?_ | refine condM_split ?_ ?_ | refine condM_any ?_ ?_ | intro _) | (simp [*]))
      refine awp_for3 (fun (k : Nat) => k ≤ m.length ∧ allD shortB m k = A) [0] (fun (k : Nat) => [(3, .w false false (.int .i64 k))]) [] (fun (k : Nat) => []) (fun (k : Nat) => m.length - k) (fun (_u : Unit) => A = true) [] (fun (_u : Unit) => []) [] (fun (_u : Unit) => []) (0) ⟨Nat.zero_le _, kA⟩ (by simp) (by simp) (fun k hk => ?_) (fun _u hf => ?_)
      · obtain ⟨hk, hj⟩ := hk
        by_cases hlt : k < m.length
        · rw [allD_step hlt] at hj
          have c1 := short_c (nth m k)
          unfold cEntry at c1
          cases hr : shortB (nth m k) with
          | false =>
            have hA : A = false := by rw [← hj, hr]; rfl
            rw [hr] at c1
            clear hj kA hr
            subst hA
            repeat' (first | (with_reducible first | refine awp_seq ?_ | refine awp_blockS ?_ | refine awp_blockC ?_ | refine awp_blockR ?_ | refine awp_skip ?_ | refine awp_ret ?_ | refine awp_exit ?_ | refine awp_region ?_ | refine awp_condM ?_ | refine And.intro ?_ ?_ | apply gQ_merge | apply gE_merge | exact EqV_w | exact EqE_w | exact EqV_ptr | exact EqE_ptr | exact EqV_msl | exact EqE_msl | exact EqV_agg | exact EqE_agg | exact EqV_fn | exact EqE_fn | exact EqV_gd | exact EqE_gd | refine gM_splitN ?_ ?_ | refine gM_split ?_ ?_ |  refine condM_splitDN ?_ ?_ | refine condM_splitD ?_ ?_ | refine condM_splitN ?_ ?_ | refine condM_split ?_ ?_ | refine condM_any ?_ ?_ | refine cw (c1) ?_ | intro _) | (simp [*, hlt, cEntry]) | (refine cw_eq (c1) ?_ ?_; (· (simp [*]; done))))
            all_goals try first | exact inI64 (by omega) (by omega) | omega
          | true =>
            have kj : Keep (allD shortB m (k + 1) = A) := keep (by rw [← hj, hr, Bool.true_and])
            rw [hr] at c1
            clear hj hr
            repeat' (first | (with_reducible first | refine awp_seq ?_ | refine awp_blockS ?_ | refine awp_blockC ?_ | refine awp_blockR ?_ | refine awp_skip ?_ | refine awp_ret ?_ | refine awp_exit ?_ | refine awp_region ?_ | refine awp_condM ?_ | refine And.intro ?_ ?_ | apply gQ_merge | apply gE_merge | exact EqV_w | exact EqE_w | exact EqV_ptr | exact EqE_ptr | exact EqV_msl | exact EqE_msl | exact EqV_agg | exact EqE_agg | exact EqV_fn | exact EqE_fn | exact EqV_gd | exact EqE_gd | refine gM_splitN ?_ ?_ | refine gM_split ?_ ?_ |  refine condM_splitDN ?_ ?_ | refine condM_splitD ?_ ?_ | refine condM_splitN ?_ ?_ | refine condM_split ?_ ?_ | refine condM_any ?_ ?_ | refine cw (c1) ?_ | intro _) | (simp [*, hlt, cEntry]) | (refine cw_eq (c1) ?_ ?_; (· (simp [*]; done))))
            all_goals first
              | exact inI64 (by omega) (by omega)
              | omega
              | (refine loopK_normal _ _ _ _ _ (k + 1) _ ?_ (by first | omega | (dsimp only; omega) | (simp; omega)) ?_; (· exact ⟨by omega, kj⟩); (refine le_of ?_ ?_ <;> first | trivial | (simp [*]; done)))
              | skip
        · have hke : k = m.length := by omega
          subst hke
          rw [allD_end] at hj
          have kj := keep hj.symm
          clear hj kA
          repeat' (first | (with_reducible first | refine awp_seq ?_ | refine awp_blockS ?_ | refine awp_blockC ?_ | refine awp_blockR ?_ | refine awp_skip ?_ | refine awp_ret ?_ | refine awp_exit ?_ | refine awp_region ?_ | refine awp_condM ?_ | refine And.intro ?_ ?_ | apply gQ_merge | apply gE_merge | exact EqV_w | exact EqE_w | exact EqV_ptr | exact EqE_ptr | exact EqV_msl | exact EqE_msl | exact EqV_agg | exact EqE_agg | exact EqV_fn | exact EqE_fn | exact EqV_gd | exact EqE_gd | refine gM_splitN ?_ ?_ | refine gM_split ?_ ?_ |  refine condM_splitDN ?_ ?_ | refine condM_splitD ?_ ?_ | refine condM_splitN ?_ ?_ | refine condM_split ?_ ?_ | refine condM_any ?_ ?_ | intro _) | (simp [*]))
          all_goals (refine finW_intro () ?_ ?_; (· exact kj); (refine le_of ?_ ?_ <;> first | trivial | (simp [*]; done)))
      · subst hf
        clear kA
        repeat' (first | (with_reducible first | refine awp_seq ?_ | refine awp_blockS ?_ | refine awp_blockC ?_ | refine awp_blockR ?_ | refine awp_skip ?_ | refine awp_ret ?_ | refine awp_exit ?_ | refine awp_region ?_ | refine awp_condM ?_ | refine And.intro ?_ ?_ | apply gQ_merge | apply gE_merge | exact EqV_w | exact EqE_w | exact EqV_ptr | exact EqE_ptr | exact EqV_msl | exact EqE_msl | exact EqV_agg | exact EqE_agg | exact EqV_fn | exact EqE_fn | exact EqV_gd | exact EqE_gd | refine gM_splitN ?_ ?_ | refine gM_split ?_ ?_ |  refine condM_splitDN ?_ ?_ | refine condM_splitD ?_ ?_ | refine condM_splitN ?_ ?_ | refine condM_split ?_ ?_ | refine condM_any ?_ ?_ | intro _) | (simp [*]))
def entsA (l : List Entry) (k : Nat) : List AV := (cEntries (l.take k)).map (.w true false)
theorem entsA_len (l : List Entry) (k : Nat) (h : k ≤ l.length) : (entsA l k).length = k * 3 := by simp [entsA, Nat.min_eq_left h]
@[simp] theorem entsA_zero (l : List Entry) : entsA l 0 = [] := rfl
theorem entsA_succ (l : List Entry) (k : Nat) (h : k < l.length) : entsA l (k + 1) = entsA l k ++ [.w true false (.int .i64 (nth l k).date), .w true false (.str (nth l k).note), .w true false (.sl (nth l k).lines.length (cLines (nth l k).lines))] := by
  unfold entsA cEntries
  rw [take_succ_nth l k h, List.flatMap_append, List.map_append]
  rfl
@[simp] theorem entsA_lt (l : List Entry) (k n : Nat) : AV.lt.ltL n (entsA l k) = true := ltL_map n true false _
@[simp] theorem entsA_self {D : List Nat} {h : Heap} {n n' : Nat} (l : List Entry) (k : Nat) : cellsLe D h n n' (entsA l k) (entsA l k) = True := eq_true (cellsLe_w true false _)
theorem entsA_all (l : List Entry) : entsA l l.length = (cEntries l).map (.w true false) := by simp [entsA]
set_option maxHeartbeats 1000000 in
theorem copyEntries_c (l : List Entry) (hl : l.length < 10000) (he : ∀ k, k < l.length → EntryIn (nth l k)) : RealCall Tryz.prog 26 [.sl l.length (cEntries l)] (.sl l.length (cEntries l)) true := by
  refine realcall_intro Tryz.func26 (by kernel_rfl) rfl (Nat.le_of_ble_eq_true (by kernel_rfl)) ?_
  simp only [Tryz.results26, Tryz.ntmps26]
  repeat' (first | (with_reducible first | refine awp_seq ?_ | refine awp_blockS ?_ | refine awp_blockC ?_ | refine awp_blockR ?_ | refine awp_skip ?_ | refine awp_ret ?_ | refine awp_exit ?_ | refine awp_region ?_ | refine awp_condM ?_ | refine And.intro ?_ ?_ | apply gQ_merge | apply gE_merge | exact EqV_w | exact EqE_w | exact EqV_ptr | exact EqE_ptr | exact EqV_msl | exact EqE_msl | exact EqV_agg | exact EqE_agg | exact EqV_fn | exact EqE_fn | exact EqV_gd | exact EqE_gd | refine gM_splitN ?_ ?_ | refine gM_split ?_ ?_ |  refine condM_splitDN ?_ ?_ | refine condM_splitD ?_ ?_ | refine condM_splitN ?_ ?_ | refine condM_split ?_ ?_ | refine condM_any ?_ ?_ | intro _) | (simp [*]))
  refine awp_for4 1 (fun (k : Nat) => k ≤ l.length) [0] (fun (k : Nat) => [(3, .msl 0 (k * 3) 3 0 k), (4, .w false false (.int .i64 k))]) [] (fun (k : Nat) => [(0, entsA l k)]) (fun (k : Nat) => l.length - k) (fun (_u : Unit) => True) [] (fun (_u : Unit) => [(3, .msl 0 (l.length * 3) 3 0 l.length)]) [] (fun (_u : Unit) => [(0, entsA l l.length)]) (0) (Nat.zero_le _) (le_gen [] (by simp) (by simp)) (fun k hk => ?_) (fun _u hf => ?_)
  · by_cases hlt : k < l.length
    · have hr1 := (he k hlt).len
      clear he
      have cc := copyEntry_c (nth l k) (by omega)
      unfold cEntry at cc
      have hlen := entsA_len l k hk
      have ks := keep (entsA_succ l k hlt)
      repeat' (first | (with_reducible first | refine awp_seq ?_ | refine awp_blockS ?_ | refine awp_blockC ?_ | refine awp_blockR ?_ | refine awp_skip ?_ | refine awp_ret ?_ | refine awp_exit ?_ | refine awp_region ?_ | refine awp_condM ?_ | refine And.intro ?_ ?_ | apply gQ_merge | apply gE_merge | exact EqV_w | exact EqE_w | exact EqV_ptr | exact EqE_ptr | exact EqV_msl | exact EqE_msl | exact EqV_agg | exact EqE_agg | exact EqV_fn | exact EqE_fn | exact EqV_gd | exact EqE_gd | refine gM_splitN ?_ ?_ | refine gM_split ?_ ?_ |  refine condM_splitDN ?_ ?_ | refine condM_splitD ?_ ?_ | refine condM_splitN ?_ ?_ | refine condM_split ?_ ?_ | refine condM_any ?_ ?_ | refine cw (cc) ?_ | intro _) | (simp [*, hlt, hlen, cEntry]) | (refine cw_eq (cc) ?_ ?_; (· (simp [*]; done))))
      all_goals first
        | exact inI64 (by omega) (by omega)
        | omega
        | (refine loopK_normal _ _ _ _ _ (k + 1) _ ?_ (by first | omega | (dsimp only; omega) | (simp; omega)) ?_; (· omega); (refine le_gen [] ?_ ?_ <;> first | trivial | (simp [*, entsA_succ l k hlt, Nat.add_mul]; done)))
        | skip
    · have hke : k = l.length := by omega
      subst hke
      clear he
      repeat' (first | (with_reducible first | refine awp_seq ?_ | refine awp_blockS ?_ | refine awp_blockC ?_ | refine awp_blockR ?_ | refine awp_skip ?_ | refine awp_ret ?_ | refine awp_exit ?_ | refine awp_region ?_ | refine awp_condM ?_ | refine And.intro ?_ ?_ | apply gQ_merge | apply gE_merge | exact EqV_w | exact EqE_w | exact EqV_ptr | exact EqE_ptr | exact EqV_msl | exact EqE_msl | exact EqV_agg | exact EqE_agg | exact EqV_fn | exact EqE_fn | exact EqV_gd | exact EqE_gd | refine gM_splitN ?_ ?_ | refine gM_split ?_ ?_ |  refine condM_splitDN ?_ ?_ | refine condM_splitD ?_ ?_ | refine condM_splitN ?_ ?_ | refine condM_split ?_ ?_ | refine condM_any ?_ ?_ | intro _) | (simp [*]))
      all_goals (refine finW_intro () ?_ ?_; (· trivial); (refine le_gen [] ?_ ?_ <;> first | trivial | (simp [*]; done)))
  · clear he
    have hlen := entsA_len l l.length (Nat.le_refl _)
    rw [entsA_all]
    repeat' (first | (with_reducible first | refine awp_seq ?_ | refine awp_blockS ?_ | refine awp_blockC ?_ | refine awp_blockR ?_ | refine awp_skip ?_ | refine awp_ret ?_ | refine awp_exit ?_ | refine awp_region ?_ | refine awp_condM ?_ | refine And.intro ?_ ?_ | apply gQ_merge | apply gE_merge | exact EqV_w | exact EqE_w | exact EqV_ptr | exact EqE_ptr | exact EqV_msl | exact EqE_msl | exact EqV_agg | exact EqE_agg | exact EqV_fn | exact EqE_fn | exact EqV_gd | exact EqE_gd | refine gM_splitN ?_ ?_ | refine gM_split ?_ ?_ |  refine condM_splitDN ?_ ?_ | refine condM_splitD ?_ ?_ | refine condM_splitN ?_ ?_ | refine condM_split ?_ ?_ | refine condM_any ?_ ?_ | intro _) | (simp [*, hlen]))
theorem shortsB_in {l : List Entry} (h : shortsB l = true) : l.length ≤ 102 ∧ ∀ k, k < l.length → EntryIn (nth l k) := by
  unfold shortsB at h
  rw [Bool.and_eq_true] at h
  have h3 := h.1
  simp at h3
  exact ⟨by omega, fun k hk => shortB_in (List.all_eq_true.1 h.2 (nth l k) (by simp [nth, List.getD_eq_getElem?_getD, List.getElem?_eq_getElem hk]))⟩
theorem outN_len (l : List Entry) (note : ByteArray) (h : ∀ j, j < l.length → linesE (nth l j).lines = 0) : (outN l note).lines.length ≤ 12 * l.length := by
  have h1 := netK_len l l.length (Nat.le_refl _) h
  have h2 := outK_len (fun n => sumE n l l.length) (kM (netK l l.length)) (kM (netK l l.length)).length
  unfold outN
  dsimp only
  omega
theorem netted_c (l : List Entry) (note : ByteArray) (hn : note.size < 1000000) (hl : l.length < 1000) (hll : ∀ k, k < l.length → (nth l k).lines.length < 1000) :
    RealCall Tryz.prog 25 [.sl l.length (cEntries l), .str note] (.tup [.agg (cEntry (netS l note).1), .int .i64 (netS l note).2]) false := by
  by_cases h0 : l.length = 0
  · have e : l = [] := List.eq_nil_of_length_eq_zero h0
    subst e
    exact netted_head [] note (by decide)
  · by_cases h1 : 100 < l.length
    · have hh : headN l = 8 := by
        unfold headN
        rw [decide_eq_true (by omega), decide_eq_false (by omega)]; rfl
      have := netted_head l note (by rw [hh]; decide)
      rw [hh] at this
      unfold netS
      rw [if_neg h0, if_pos h1]
      exact this
    · unfold netS
      rw [if_neg h0, if_neg h1]
      refine netted_main l note hn (by omega) (by omega) hll _ _ (fun he => ?_) (fun he => ?_)
      · unfold errN at *
        by_cases hz : errL l ≠ 0
        · rw [if_pos hz, if_pos hz]; exact ⟨rfl, rfl⟩
        · rw [if_neg hz] at he ⊢
          rw [if_neg hz, if_pos he]; exact ⟨rfl, rfl⟩
      · unfold errN at he
        by_cases hz : errL l ≠ 0
        · rw [if_pos hz] at he; exact absurd he hz
        · rw [if_neg hz] at he
          rw [if_neg hz, if_neg (by rw [he]; simp)]
          have hb := outN_len l note (errL_zero.1 (by omega))
          exact largest_c _ (by omega)
theorem rNetted_c (l : List Entry) (note : ByteArray) (hn : note.size < 1000000) (hl : l.length < 1000) (hll : ∀ k, k < l.length → (nth l k).lines.length < 1000) :
    RealCall Tryz.prog 27 [.sl l.length (cEntries l), .str note] (.tup [.agg (cEntry (netS l note).1), .int .i64 (netS l note).2]) true := by
  by_cases h0 : l.length = 0
  · have e : l = [] := List.eq_nil_of_length_eq_zero h0
    subst e
    have : netS [] note = (noEntry, 10) := rfl
    rw [this]
    unfold cEntry noEntry
    refine realcall_intro Tryz.func27 (by kernel_rfl) rfl (Nat.le_of_ble_eq_true (by kernel_rfl)) ?_
    simp only [Tryz.results27, Tryz.ntmps27]
    repeat' (first | (with_reducible first | refine awp_seq ?_ | refine awp_blockS ?_ | refine awp_blockC ?_ | refine awp_blockR ?_ | refine awp_skip ?_ | refine awp_ret ?_ | refine awp_exit ?_ | refine awp_region ?_ | refine awp_regionD (id := 28) 11 mixed (by decide +kernel) ?_ | refine awp_regionD (id := 30) 9 mixed (by decide +kernel) ?_ | refine awp_condM ?_ | refine And.intro ?_ ?_ | apply gQ_merge | apply gE_merge | exact EqV_w | exact EqE_w | exact EqV_ptr | exact EqE_ptr | exact EqV_msl | exact EqE_msl | exact EqV_agg | exact EqE_agg | exact EqV_fn | exact EqE_fn | exact EqV_gd | exact EqE_gd | refine gM_splitN ?_ ?_ | refine gM_split ?_ ?_ |  refine condM_splitDN ?_ ?_ | refine condM_splitD ?_ ?_ | refine condM_splitN ?_ ?_ | refine condM_split ?_ ?_ | refine condM_any ?_ ?_ | intro _) | (simp [*, repl]))
    all_goals rfl
  · by_cases h1 : 100 < l.length
    · have hI : (100 : Int) < (l.length : Int) := by omega
      have hI0 : ¬ (l.length : Int) = 0 := by omega
      have hnil : ¬ l = [] := fun e => h0 (by rw [e]; rfl)
      unfold netS
      rw [if_neg h0, if_pos h1]
      unfold cEntry noEntry
      refine realcall_intro Tryz.func27 (by kernel_rfl) rfl (Nat.le_of_ble_eq_true (by kernel_rfl)) ?_
      simp only [Tryz.results27, Tryz.ntmps27]
      repeat' (first | (with_reducible first | refine awp_seq ?_ | refine awp_blockS ?_ | refine awp_blockC ?_ | refine awp_blockR ?_ | refine awp_skip ?_ | refine awp_ret ?_ | refine awp_exit ?_ | refine awp_region ?_ | refine awp_regionD (id := 28) 11 mixed (by decide +kernel) ?_ | refine awp_regionD (id := 30) 9 mixed (by decide +kernel) ?_ | refine awp_condM ?_ | refine And.intro ?_ ?_ | apply gQ_merge | apply gE_merge | exact EqV_w | exact EqE_w | exact EqV_ptr | exact EqE_ptr | exact EqV_msl | exact EqE_msl | exact EqV_agg | exact EqE_agg | exact EqV_fn | exact EqE_fn | exact EqV_gd | exact EqE_gd | refine gM_splitN ?_ ?_ | refine gM_split ?_ ?_ |  refine condM_splitDN ?_ ?_ | refine condM_splitD ?_ ?_ | refine condM_splitN ?_ ?_ | refine condM_split ?_ ?_ | refine condM_any ?_ ?_ | intro _) | (simp [*, h0, hI, hI0, hnil, repl]))
      all_goals rfl
    · unfold netS
      rw [if_neg h0, if_neg h1]
      refine rNetted_main l note hn (by omega) (by omega) hll _ _ (fun he => ?_) (fun he he2 => ?_) (fun he he2 hm => ?_) (fun he he2 hm => ?_)
      · rw [if_pos he]; exact ⟨rfl, rfl⟩
      · rw [if_neg (by rw [he]; simp), if_pos he2]; exact ⟨rfl, rfl⟩
      · rw [if_neg (by rw [he]; simp), if_neg (by rw [he2]; simp)]; unfold largestS; rw [if_pos hm]; exact ⟨rfl, rfl⟩
      · rw [if_neg (by rw [he]; simp), if_neg (by rw [he2]; simp)]; unfold largestS; rw [if_neg (by rw [hm]; decide)]; exact ⟨rfl, rfl⟩
set_option maxHeartbeats 4000000 in
theorem reversed_c (e : Entry) (hl : e.lines.length < 10000) (d : Int) : RealCall Tryz.prog 28 [.agg (cEntry e), .int .i64 d] (.tup [.agg (cEntry (revS e d).1), .int .i64 (revS e d).2]) true := by
  have c1 := linesErr_c e.lines (by omega)
  rw [linesQ_eq] at c1
  have c2 := dateErr_c d
  have c3 := first2_c (linesE e.lines) (dateE d)
  unfold revS
  by_cases h1 : linesE e.lines = 0
  · rw [if_pos h1]
    obtain ⟨_, ha⟩ := linesE_zero h1
    rw [h1] at c1 c3
    by_cases h2 : dateE d = 0
    · rw [if_pos h2]
      rw [h2] at c2 c3
      have c4 := opposite_c e (by omega) ha
      change RealCall _ _ _ (.int .i64 0) true at c3
      clear h1 h2 ha
      generalize negL e.lines = M at *
      obtain ⟨ed, en, el⟩ := e
      unfold cEntry at *
      dsimp only at *
      refine realcall_intro Tryz.func28 (by kernel_rfl) rfl (Nat.le_of_ble_eq_true (by kernel_rfl)) ?_
      simp only [Tryz.results28, Tryz.ntmps28]
      repeat' (first | (with_reducible first | refine awp_seq ?_ | refine awp_blockS ?_ | refine awp_blockC ?_ | refine awp_blockR ?_ | refine awp_skip ?_ | refine awp_ret ?_ | refine awp_exit ?_ | refine awp_region ?_ | refine awp_condM ?_ | refine And.intro ?_ ?_ | apply gQ_merge | apply gE_merge | exact EqV_w | exact EqE_w | exact EqV_ptr | exact EqE_ptr | exact EqV_msl | exact EqE_msl | exact EqV_agg | exact EqE_agg | exact EqV_fn | exact EqE_fn | exact EqV_gd | exact EqE_gd | refine gM_splitN ?_ ?_ | refine gM_split ?_ ?_ |  refine condM_splitDN ?_ ?_ | refine condM_splitD ?_ ?_ | refine condM_splitN ?_ ?_ | refine condM_split ?_ ?_ | refine condM_any ?_ ?_ | refine cw (c1) ?_ | refine cw (c2) ?_ | refine cw (c3) ?_ | refine cw (c4) ?_ | intro _) | (simp [*]) | (refine cw_eq (c1) ?_ ?_; (· (simp [*]; done))) | (refine cw_eq (c2) ?_ ?_; (· (simp [*]; done))) | (refine cw_eq (c3) ?_ ?_; (· (simp [*]; done))) | (refine cw_eq (c4) ?_ ?_; (· (simp [*]; done))))
    · rw [if_neg h2]
      have e3 : firstS [0, dateE d] = dateE d := by unfold firstS; rw [if_pos rfl]; unfold firstS; rw [if_neg h2]
      rw [e3] at c3
      generalize dateE d = E at *
      clear h1 ha e3
      obtain ⟨ed, en, el⟩ := e
      unfold cEntry noEntry at *
      dsimp only at *
      refine realcall_intro Tryz.func28 (by kernel_rfl) rfl (Nat.le_of_ble_eq_true (by kernel_rfl)) ?_
      simp only [Tryz.results28, Tryz.ntmps28]
      repeat' (first | (with_reducible first | refine awp_seq ?_ | refine awp_blockS ?_ | refine awp_blockC ?_ | refine awp_blockR ?_ | refine awp_skip ?_ | refine awp_ret ?_ | refine awp_exit ?_ | refine awp_region ?_ | refine awp_condM ?_ | refine And.intro ?_ ?_ | apply gQ_merge | apply gE_merge | exact EqV_w | exact EqE_w | exact EqV_ptr | exact EqE_ptr | exact EqV_msl | exact EqE_msl | exact EqV_agg | exact EqE_agg | exact EqV_fn | exact EqE_fn | exact EqV_gd | exact EqE_gd | refine gM_splitN ?_ ?_ | refine gM_split ?_ ?_ |  refine condM_splitDN ?_ ?_ | refine condM_splitD ?_ ?_ | refine condM_splitN ?_ ?_ | refine condM_split ?_ ?_ | refine condM_any ?_ ?_ | refine cw (c1) ?_ | refine cw (c2) ?_ | refine cw (c3) ?_ | intro _) | (simp [*, h2, repl]) | (refine cw_eq (c1) ?_ ?_; (· (simp [*]; done))) | (refine cw_eq (c2) ?_ ?_; (· (simp [*]; done))) | (refine cw_eq (c3) ?_ ?_; (· (simp [*]; done))))
      all_goals rfl
  · rw [if_neg h1]
    have e3 : firstS [linesE e.lines, dateE d] = linesE e.lines := by unfold firstS; rw [if_neg h1]
    rw [e3] at c3
    generalize linesE e.lines = E at *
    clear e3
    generalize dateE d = D at *
    obtain ⟨ed, en, el⟩ := e
    unfold cEntry noEntry at *
    dsimp only at *
    refine realcall_intro Tryz.func28 (by kernel_rfl) rfl (Nat.le_of_ble_eq_true (by kernel_rfl)) ?_
    simp only [Tryz.results28, Tryz.ntmps28]
    repeat' (first | (with_reducible first | refine awp_seq ?_ | refine awp_blockS ?_ | refine awp_blockC ?_ | refine awp_blockR ?_ | refine awp_skip ?_ | refine awp_ret ?_ | refine awp_exit ?_ | refine awp_region ?_ | refine awp_condM ?_ | refine And.intro ?_ ?_ | apply gQ_merge | apply gE_merge | exact EqV_w | exact EqE_w | exact EqV_ptr | exact EqE_ptr | exact EqV_msl | exact EqE_msl | exact EqV_agg | exact EqE_agg | exact EqV_fn | exact EqE_fn | exact EqV_gd | exact EqE_gd | refine gM_splitN ?_ ?_ | refine gM_split ?_ ?_ |  refine condM_splitDN ?_ ?_ | refine condM_splitD ?_ ?_ | refine condM_splitN ?_ ?_ | refine condM_split ?_ ?_ | refine condM_any ?_ ?_ | refine cw (c1) ?_ | refine cw (c2) ?_ | refine cw (c3) ?_ | intro _) | (simp [*, h1, repl]) | (refine cw_eq (c1) ?_ ?_; (· (simp [*]; done))) | (refine cw_eq (c2) ?_ ?_; (· (simp [*]; done))) | (refine cw_eq (c3) ?_ ?_; (· (simp [*]; done))))
    all_goals rfl
theorem putS_neg' (n : ByteArray) : ∀ l : List Line, putS n (negL l) = - putS n l
  | [] => rfl
  | y :: l => by
    have ih := putS_neg' n l
    show (if y.acc = n then -y.amt else 0) + putS n (negL l) = -((if y.acc = n then y.amt else 0) + putS n l)
    rw [ih]; split <;> omega
theorem greatB_neg (y : Line) : greatB ⟨y.acc, -y.amt⟩ = greatB y := by
  unfold greatB smallB winB
  congr 1
  simp only [Bool.and_eq_decide, decide_eq_decide]
  by_cases h1 : -1000000000 ≤ y.amt <;> by_cases h2 : y.amt ≤ 1000000000 <;> simp <;> omega
theorem linesE_neg (l : List Line) : linesE (negL l) = linesE l := by
  unfold linesE
  rw [negL_len']
  have : (negL l).any greatB = l.any greatB := by
    unfold negL
    rw [List.any_map]
    congr 1
    funext y
    exact greatB_neg y
  rw [this]
theorem outK_nil {f : ByteArray → Int} (h : ∀ n, f n = 0) (ns : List ByteArray) : ∀ k, outK f ns k = []
  | 0 => rfl
  | k + 1 => by rw [outK_succ, outK_nil h ns k]; unfold addL; rw [if_pos (h _)]
def bothT : ByteArray := ⟨#[98, 111, 116, 104]⟩
theorem net_back (x : Entry) (d : Int) (hx : linesE x.lines = 0) : netS [x, ⟨d, x.note, negL x.lines⟩] bothT = (⟨d, bothT, []⟩, 0) := by
  have he : errL [x, ⟨d, x.note, negL x.lines⟩] = 0 := errL_zero.2 (fun k hk => by
    match k, hk with
    | 0, _ => exact hx
    | 1, _ => exact (linesE_neg x.lines).trans hx)
  have hn : noteE bothT = 0 := by decide +kernel
  unfold netS
  rw [if_neg (by simp), if_neg (by simp), if_neg (by rw [he]; simp), if_neg (by rw [hn]; simp)]
  have ho : outN [x, ⟨d, x.note, negL x.lines⟩] bothT = ⟨d, bothT, []⟩ := by
    unfold outN
    rw [outK_nil (fun n => ?_)]
    · rfl
    · show (0 + putS n x.lines) + putS n (negL x.lines) = 0
      rw [putS_neg']; omega
  rw [ho]
  rfl
end Go.Proofs.YtpjhpmpbdfeajaaGreatDoor
namespace Go.Proofs.YtpjhpmpbdfeajaaGreatDoor
open Go Go.Fi
set_option maxRecDepth 20000
attribute [-simp] cEntries_drop2

/-! ### AccountNets -/
theorem netS_lines (l : List Entry) (note : ByteArray) : (netS l note).1.lines.length ≤ 1200 := by
  unfold netS
  split
  · exact Nat.zero_le _
  · split
    · exact Nat.zero_le _
    · rename_i h0 h1
      split
      · exact Nat.zero_le _
      · rename_i h2
        split
        · exact Nat.zero_le _
        · have hb := outN_len l note (errL_zero.1 (by omega))
          unfold largestS
          split
          · exact Nat.zero_le _
          · dsimp only; omega
theorem revS_lines (e : Entry) (d : Int) : (revS e d).1.lines.length ≤ e.lines.length := by
  unfold revS
  split
  · split
    · dsimp only; rw [negL_len']; omega
    · exact Nat.zero_le _
  · exact Nat.zero_le _
theorem shortsB_len {l : List Entry} (h : shortsB l = true) : ∀ k, k < l.length → (nth l k).lines.length ≤ 14 := fun k hk => by
  unfold shortsB at h
  rw [Bool.and_eq_true] at h
  have h2 := List.all_eq_true.1 h.2 (nth l k) (by simp [nth, List.getD_eq_getElem?_getD, List.getElem?_eq_getElem hk])
  unfold shortB at h2
  rw [Bool.and_eq_true] at h2
  have h3 := h2.1
  simp at h3
  omega
/-- data without memory of its own are as good as new -/
inductive NoMem : PV → Prop
  | int (k : IntKind) (n : Int) : NoMem (.int k n)
  | str (s : ByteArray) : NoMem (.str s)
  | sl (n : Nat) : NoMem (.sl n [])
  | agg {cs : List PV} : (∀ p ∈ cs, NoMem p) → NoMem (.agg cs)
  | tup {cs : List PV} : (∀ p ∈ cs, NoMem p) → NoMem (.tup cs)
theorem rep_noMem {G G' : Nat → Prop} {w : World} {p : PV} {v : Value} (h : Rep G w p v) : NoMem p → Rep G' w p v := by
  induction h with
  | int k n => exact fun _ => .int k n
  | str s => exact fun _ => .str s
  | agg hl _ ih =>
    intro hn
    cases hn with | agg hn => exact .agg hl (fun j p v hp hv => ih j p v hp hv (hn p (List.mem_of_getElem? hp)))
  | tup hl _ ih =>
    intro hn
    cases hn with | tup hn => exact .tup hl (fun j p v hp hv => ih j p v hp hv (hn p (List.mem_of_getElem? hp)))
  | slnil => exact fun _ => .slnil
  | sl vals hn hcc hg hr ih =>
    intro hm
    cases hm
    exact .sl vals hn hcc (fun h => absurd rfl h) (fun j p hp => by simp at hp)
  | slz hn => exact fun _ => .slz hn
  | _ => intro hm; cases hm
theorem realcall_noMem {P : Program} {f : FuncId} {args : List PV} {res : PV} {fr : Bool} (h : RealCall P f args res fr) (hm : NoMem res) : RealCall P f args res true := by
  refine ⟨h.1, fun G w vs hw hl hv => ?_⟩
  have := h.2 G w vs hw hl hv
  exact this.mono (fun e w' ⟨v, h1, h2, h3⟩ => ⟨v, h1, h2, rep_noMem h3 hm⟩)
set_option maxHeartbeats 8000000 in
theorem accountNets_c (l : List Entry) (note : ByteArray) (date : Int) : RealCall Tryz.prog 5 [.sl l.length (cEntries l), .str note, .int .i64 date] (.bool true) true := by
  have c0 := awake_c
  have c1 := shorts_c l
  cases h1 : shortsB l with
  | false =>
    rw [h1] at c1
    refine realcall_intro Tryz.func5 (by kernel_rfl) rfl (Nat.le_of_ble_eq_true (by kernel_rfl)) ?_
    simp only [Tryz.results5, Tryz.ntmps5]
    repeat' (first | (with_reducible first | refine awp_seq ?_ | refine awp_blockS ?_ | refine awp_blockC ?_ | refine awp_blockR ?_ | refine awp_skip ?_ | refine awp_ret ?_ | refine awp_exit ?_ | refine awp_region ?_ | refine awp_regionS (id := 17) [0, 1, 2, 3, 4, 5, 6, 7, 8, 9, 10, 11] [12, 13] [[], [], [], [], [], [], [], [], [], [], [.new 1], []] [[.new 1], []] mixed (by decide +kernel) ?_ | refine awp_condM ?_ | refine And.intro ?_ ?_ | apply gQ_merge | apply gE_merge | exact EqV_w | exact EqE_w | exact EqV_ptr | exact EqE_ptr | exact EqV_msl | exact EqE_msl | exact EqV_agg | exact EqE_agg | exact EqV_fn | exact EqE_fn | exact EqV_gd | exact EqE_gd | refine gM_splitN ?_ ?_ | refine gM_split ?_ ?_ |  refine condM_splitDN ?_ ?_ | refine condM_splitD ?_ ?_ | refine condM_splitN ?_ ?_ | refine condM_split ?_ ?_ | refine condM_any ?_ ?_ | refine cw (c0) ?_ | refine cw (c1) ?_ | intro _) | (simp [*]) | (refine cw_eq (c0) ?_ ?_; (· (simp [*]; done))) | (refine cw_eq (c1) ?_ ?_; (· (simp [*]; done))))
  | true =>
    rw [h1] at c1
    by_cases h2 : 20 < note.size
    · have h2I : (20 : Int) < (note.size : Int) := by omega
      refine realcall_intro Tryz.func5 (by kernel_rfl) rfl (Nat.le_of_ble_eq_true (by kernel_rfl)) ?_
      simp only [Tryz.results5, Tryz.ntmps5]
      repeat' (first | (with_reducible first | refine awp_seq ?_ | refine awp_blockS ?_ | refine awp_blockC ?_ | refine awp_blockR ?_ | refine awp_skip ?_ | refine awp_ret ?_ | refine awp_exit ?_ | refine awp_region ?_ | refine awp_regionS (id := 17) [0, 1, 2, 3, 4, 5, 6, 7, 8, 9, 10, 11] [12, 13] [[], [], [], [], [], [], [], [], [], [], [.new 1], []] [[.new 1], []] mixed (by decide +kernel) ?_ | refine awp_condM ?_ | refine And.intro ?_ ?_ | apply gQ_merge | apply gE_merge | exact EqV_w | exact EqE_w | exact EqV_ptr | exact EqE_ptr | exact EqV_msl | exact EqE_msl | exact EqV_agg | exact EqE_agg | exact EqV_fn | exact EqE_fn | exact EqV_gd | exact EqE_gd | refine gM_splitN ?_ ?_ | refine gM_split ?_ ?_ |  refine condM_splitDN ?_ ?_ | refine condM_splitD ?_ ?_ | refine condM_splitN ?_ ?_ | refine condM_split ?_ ?_ | refine condM_any ?_ ?_ | refine cw (c0) ?_ | refine cw (c1) ?_ | intro _) | (simp [*, h2I]) | (refine cw_eq (c0) ?_ ?_; (· (simp [*]; done))) | (refine cw_eq (c1) ?_ ?_; (· (simp [*]; done))))
    · have h2I : ¬ (20 : Int) < (note.size : Int) := by omega
      obtain ⟨hl, hin⟩ := shortsB_in h1
      have hll : ∀ k, k < l.length → (nth l k).lines.length < 1000 := fun k hk => by have := shortsB_len h1 k hk; omega
      have c2 := copyEntries_c l (by omega) hin
      have c3 := netted_c l note (by omega) (by omega) hll
      have c4 := rNetted_c l note (by omega) (by omega) hll
      have c5 := sameEntry_c (netS l note).1 (by have := netS_lines l note; omega)
      clear h1
      generalize netS l note = R at *
      obtain ⟨⟨r1, r2, r3⟩, re⟩ := R
      by_cases h0 : l.length = 0
      · have e : l = [] := List.eq_nil_of_length_eq_zero h0
        subst e
        unfold cEntry at *
        dsimp only at *
        refine realcall_intro Tryz.func5 (by kernel_rfl) rfl (Nat.le_of_ble_eq_true (by kernel_rfl)) ?_
        simp only [Tryz.results5, Tryz.ntmps5]
        repeat' (first | (with_reducible first | refine awp_seq ?_ | refine awp_blockS ?_ | refine awp_blockC ?_ | refine awp_blockR ?_ | refine awp_skip ?_ | refine awp_ret ?_ | refine awp_exit ?_ | refine awp_region ?_ | refine awp_regionS (id := 17) [0, 1, 2, 3, 4, 5, 6, 7, 8, 9, 10, 11] [12, 13] [[], [], [], [], [], [], [], [], [], [], [.new 1], []] [[.new 1], []] mixed (by decide +kernel) ?_ | refine awp_condM ?_ | refine And.intro ?_ ?_ | apply gQ_merge | apply gE_merge | exact EqV_w | exact EqE_w | exact EqV_ptr | exact EqE_ptr | exact EqV_msl | exact EqE_msl | exact EqV_agg | exact EqE_agg | exact EqV_fn | exact EqE_fn | exact EqV_gd | exact EqE_gd | refine gM_splitN ?_ ?_ | refine gM_split ?_ ?_ |  refine condM_splitDN ?_ ?_ | refine condM_splitD ?_ ?_ | refine condM_splitN ?_ ?_ | refine condM_split ?_ ?_ | refine condM_any ?_ ?_ | refine cw (c0) ?_ | refine cw (c1) ?_ | refine cw (c2) ?_ | refine cw (c3) ?_ | refine cw (c4) ?_ | refine cw (c5) ?_ | intro _) | (simp [*, h2I]) | (refine cw_eq (c0) ?_ ?_; (· (simp [*]; done))) | (refine cw_eq (c1) ?_ ?_; (· (simp [*]; done))) | (refine cw_eq (c2) ?_ ?_; (· (simp [*]; done))) | (refine cw_eq (c3) ?_ ?_; (· (simp [*]; done))) | (refine cw_eq (c4) ?_ ?_; (· (simp [*]; done))) | (refine cw_eq (c5) ?_ ?_; (· (simp [*]; done))))
      · have h0I : ¬ (l.length : Int) = 0 := by omega
        have hnil : ¬ l = [] := fun e => h0 (by rw [e]; rfl)
        have h0p : 0 < l.length := by omega
        have hx := hll 0 h0p
        have hd0 := cEntries_drop l 0 h0p
        rw [Nat.zero_mul, List.drop_zero] at hd0
        have c6 := copyEntry_c (nth l 0) (by omega)
        have c7 := reversed_c (nth l 0) (by omega) date
        have c8 := rReversed_c (nth l 0) (by omega) date
        have c9 := sameEntry_c (revS (nth l 0) date).1 (by have := revS_lines (nth l 0) date; omega)
        by_cases hz : (revS (nth l 0) date).2 = 0
        · have hl1 : linesE (nth l 0).lines = 0 ∧ dateE date = 0 := by
            unfold revS at hz
            by_cases g1 : linesE (nth l 0).lines = 0
            · rw [if_pos g1] at hz
              by_cases g2 : dateE date = 0
              · exact ⟨g1, g2⟩
              · rw [if_neg g2] at hz; exact absurd hz g2
            · rw [if_neg g1] at hz; exact absurd hz g1
          have hr : revS (nth l 0) date = (⟨date, (nth l 0).note, negL (nth l 0).lines⟩, 0) := by
            unfold revS; rw [if_pos hl1.1, if_pos hl1.2]
          rw [hr] at c7 c8 c9
          have hnl := negL_len' (nth l 0).lines
          have c10 := copyEntry_c ⟨date, (nth l 0).note, negL (nth l 0).lines⟩ (by dsimp only; omega)
          have c11 := netted_c [nth l 0, ⟨date, (nth l 0).note, negL (nth l 0).lines⟩] bothT (by decide) (show 2 < 1000 by decide) (fun k hk => by
            match k, hk with
            | 0, _ => exact hx
            | 1, _ => exact (by rw [hnl]; exact hx : (negL (nth l 0).lines).length < 1000))
          rw [net_back _ _ hl1.1] at c11
          replace c11 := realcall_noMem c11 (.tup (fun p hp => by
            simp at hp
            rcases hp with rfl | rfl
            · exact .agg (fun q hq => by unfold cEntry at hq; simp at hq; rcases hq with rfl | rfl | rfl <;> constructor)
            · exact .int _ _))
          change RealCall _ _ [.sl 2 [.int .i64 (nth l 0).date, .str (nth l 0).note, .sl (nth l 0).lines.length (cLines (nth l 0).lines), .int .i64 date, .str (nth l 0).note, .sl (negL (nth l 0).lines).length (cLines (negL (nth l 0).lines))], .str ⟨#[98, 111, 116, 104]⟩] (.tup [.agg [.int .i64 date, .str bothT, .sl 0 []], .int .i64 0]) _ at c11
          clear hr hl1 hnl hz
          generalize negL (nth l 0).lines = M at *
          generalize bothT = bt at *
          generalize nth l 0 = x0 at *
          clear hin hll
          unfold cEntry at *
          dsimp only at *
          refine realcall_intro Tryz.func5 (by kernel_rfl) rfl (Nat.le_of_ble_eq_true (by kernel_rfl)) ?_
          simp only [Tryz.results5, Tryz.ntmps5]
          repeat' (first | (with_reducible first | refine awp_seq ?_ | refine awp_blockS ?_ | refine awp_blockC ?_ | refine awp_blockR ?_ | refine awp_skip ?_ | refine awp_ret ?_ | refine awp_exit ?_ | refine awp_region ?_ | refine awp_regionS (id := 17) [0, 1, 2, 3, 4, 5, 6, 7, 8, 9, 10, 11] [12, 13] [[], [], [], [], [], [], [], [], [], [], [.new 1], []] [[.new 1], []] mixed (by decide +kernel) ?_ | refine awp_condM ?_ | refine And.intro ?_ ?_ | apply gQ_merge | apply gE_merge | exact EqV_w | exact EqE_w | exact EqV_ptr | exact EqE_ptr | exact EqV_msl | exact EqE_msl | exact EqV_agg | exact EqE_agg | exact EqV_fn | exact EqE_fn | exact EqV_gd | exact EqE_gd | refine gM_splitN ?_ ?_ | refine gM_split ?_ ?_ |  refine condM_splitDN ?_ ?_ | refine condM_splitD ?_ ?_ | refine condM_splitN ?_ ?_ | refine condM_split ?_ ?_ | refine condM_any ?_ ?_ | refine cw (c0) ?_ | refine cw (c1) ?_ | refine cw (c2) ?_ | refine cw (c3) ?_ | refine cw (c4) ?_ | refine cw (c5) ?_ | refine cw (c6) ?_ | refine cw (c7) ?_ | refine cw (c8) ?_ | refine cw (c9) ?_ | refine cw (c10) ?_ | refine cw (c11) ?_ | intro _) | (simp [*, h2I, h0I, h0, hnil, h0p, hd0]) | (refine cw_eq (c0) ?_ ?_; (· (simp [*]; done))) | (refine cw_eq (c1) ?_ ?_; (· (simp [*]; done))) | (refine cw_eq (c2) ?_ ?_; (· (simp [*]; done))) | (refine cw_eq (c3) ?_ ?_; (· (simp [*]; done))) | (refine cw_eq (c4) ?_ ?_; (· (simp [*]; done))) | (refine cw_eq (c5) ?_ ?_; (· (simp [*]; done))) | (refine cw_eq (c6) ?_ ?_; (· (simp [*]; done))) | (refine cw_eq (c7) ?_ ?_; (· (simp [*]; done))) | (refine cw_eq (c8) ?_ ?_; (· (simp [*]; done))) | (refine cw_eq (c9) ?_ ?_; (· (simp [*]; done))) | (refine cw_eq (c10) ?_ ?_; (· (simp [*]; done))) | (refine cw_eq (c11) ?_ ?_; (· (simp [*]; done))))
          all_goals try first | omega | rfl
        · generalize revS (nth l 0) date = Q at *
          obtain ⟨⟨q1, q2, q3⟩, qe⟩ := Q
          dsimp only at hz
          generalize nth l 0 = x0 at *
          clear hin hll
          unfold cEntry at *
          dsimp only at *
          refine realcall_intro Tryz.func5 (by kernel_rfl) rfl (Nat.le_of_ble_eq_true (by kernel_rfl)) ?_
          simp only [Tryz.results5, Tryz.ntmps5]
          repeat' (first | (with_reducible first | refine awp_seq ?_ | refine awp_blockS ?_ | refine awp_blockC ?_ | refine awp_blockR ?_ | refine awp_skip ?_ | refine awp_ret ?_ | refine awp_exit ?_ | refine awp_region ?_ | refine awp_regionS (id := 17) [0, 1, 2, 3, 4, 5, 6, 7, 8, 9, 10, 11] [12, 13] [[], [], [], [], [], [], [], [], [], [], [.new 1], []] [[.new 1], []] mixed (by decide +kernel) ?_ | refine awp_condM ?_ | refine And.intro ?_ ?_ | apply gQ_merge | apply gE_merge | exact EqV_w | exact EqE_w | exact EqV_ptr | exact EqE_ptr | exact EqV_msl | exact EqE_msl | exact EqV_agg | exact EqE_agg | exact EqV_fn | exact EqE_fn | exact EqV_gd | exact EqE_gd | refine gM_splitN ?_ ?_ | refine gM_split ?_ ?_ |  refine condM_splitDN ?_ ?_ | refine condM_splitD ?_ ?_ | refine condM_splitN ?_ ?_ | refine condM_split ?_ ?_ | refine condM_any ?_ ?_ | refine cw (c0) ?_ | refine cw (c1) ?_ | refine cw (c2) ?_ | refine cw (c3) ?_ | refine cw (c4) ?_ | refine cw (c5) ?_ | refine cw (c6) ?_ | refine cw (c7) ?_ | refine cw (c8) ?_ | refine cw (c9) ?_ | intro _) | (simp [*, h2I, h0I, h0, hnil, h0p, hd0, hz]) | (refine cw_eq (c0) ?_ ?_; (· (simp [*]; done))) | (refine cw_eq (c1) ?_ ?_; (· (simp [*]; done))) | (refine cw_eq (c2) ?_ ?_; (· (simp [*]; done))) | (refine cw_eq (c3) ?_ ?_; (· (simp [*]; done))) | (refine cw_eq (c4) ?_ ?_; (· (simp [*]; done))) | (refine cw_eq (c5) ?_ ?_; (· (simp [*]; done))) | (refine cw_eq (c6) ?_ ?_; (· (simp [*]; done))) | (refine cw_eq (c7) ?_ ?_; (· (simp [*]; done))) | (refine cw_eq (c8) ?_ ?_; (· (simp [*]; done))) | (refine cw_eq (c9) ?_ ?_; (· (simp [*]; done))))
          all_goals omega
end Go.Proofs.YtpjhpmpbdfeajaaGreatDoor

