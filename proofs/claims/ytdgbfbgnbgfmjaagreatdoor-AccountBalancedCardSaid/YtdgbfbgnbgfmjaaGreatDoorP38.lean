/- Contracts of functions for this claim: lemmas alone. -/
import Derived.Test.YtdgbfbgnbgfmjaaGreatDoorP32
import Derived.Test.YtdgbfbgnbgfmjaaGreatDoorP26
import Derived.Test.YtdgbfbgnbgfmjaaGreatDoorP29
set_option linter.unusedSimpArgs false
set_option linter.unusedVariables false
namespace Go.Proofs.YtdgbfbgnbgfmjaaGreatDoor
open Go Go.Fi
set_option maxRecDepth 20000
attribute [-simp] cEntries_drop2

/-! ### books: the guard, copies -/
def shortsB (l : List Entry) : Bool := (!((decide (12 < (l.length : Int)) && decide ((l.length : Int) ≤ 100)) || decide (102 < (l.length : Int)))) && l.all shortB
set_option maxHeartbeats 4000000 in
theorem shorts_c (m : List Entry) : RealCall Tryz.prog 63 [.sl m.length (cEntries m)] (.bool (shortsB m)) true := by
  unfold shortsB
  have hA : m.all shortB = allD shortB m 0 := rfl
  rw [hA]
  generalize hA' : allD shortB m 0 = A
  have kA := keep hA'
  clear hA hA'
  by_cases h : (12 < (m.length : Int) ∧ (m.length : Int) ≤ 100) ∨ 102 < (m.length : Int)
  · have e : ((!((decide (12 < (m.length : Int)) && decide ((m.length : Int) ≤ 100)) || decide (102 < (m.length : Int)))) && A) = false := by
      rcases h with ⟨h1, h2⟩ | h1
      · simp [h1, h2]
      · simp [h1]
    rw [e]
    clear e
    refine realcall_intro Tryz.func63 (by kernel_rfl) rfl (Nat.le_of_ble_eq_true (by kernel_rfl)) ?_
    simp only [Tryz.results63, Tryz.ntmps63]
    repeat' (first | (with_reducible first | refine awp_seq ?_ | refine awp_blockS ?_ | refine awp_blockC ?_ | refine awp_blockR ?_ | refine awp_skip ?_ | refine awp_ret ?_ | refine awp_exit ?_ | refine awp_region ?_ | refine awp_condM ?_ | refine And.intro ?_ ?_ | apply gQ_merge | apply gE_merge | exact EqV_w | exact EqE_w | exact EqV_ptr | exact EqE_ptr | exact EqV_msl | exact EqE_msl | exact EqV_agg | exact EqE_agg | exact EqV_fn | exact EqE_fn | exact EqV_gd | exact EqE_gd | refine gM_splitN ?_ ?_ | refine gM_split ?_ ?_ |  refine condM_splitDN ?_ ?_ | refine condM_splitD ?_ ?_ | refine condM_splitN ?_ ?_ | refine condM_split ?_ ?_ | refine condM_any ?_ ?_ | intro _) | (simp [*]))
    all_goals (rename_i hc; exfalso; simp at hc; omega)
  · have h1 : (!((decide (12 < (m.length : Int)) && decide ((m.length : Int) ≤ 100)) || decide (102 < (m.length : Int)))) = true := by
      simp; omega
    rw [h1, Bool.true_and]
    clear h1
    have hml : m.length < 1000 := by omega
    have h2 : ((12 < (m.length : Int)) ∧ ¬ (m.length : Int) ≤ 100 ∧ ¬ 102 < (m.length : Int)) ∨ (¬ (12 < (m.length : Int)) ∧ ¬ 102 < (m.length : Int)) := by omega
    clear h
    rcases h2 with ⟨q1, q2, q3⟩ | ⟨q1, q3⟩
    all_goals
      refine realcall_intro Tryz.func63 (by kernel_rfl) rfl (Nat.le_of_ble_eq_true (by kernel_rfl)) ?_
      simp only [Tryz.results63, Tryz.ntmps63]
      repeat' (first | (with_reducible first | refine awp_seq ?_ | refine awp_blockS ?_ | refine awp_blockC ?_ | refine awp_blockR ?_ | refine awp_skip ?_ | refine awp_ret ?_ | refine awp_exit ?_ | refine awp_region ?_ | refine awp_condM ?_ | refine And.intro ?_ ?_ | apply gQ_merge | apply gE_merge | exact EqV_w | exact EqE_w | exact EqV_ptr | exact EqE_ptr | exact EqV_msl | exact EqE_msl | exact EqV_agg | exact EqE_agg | exact EqV_fn | exact EqE_fn | exact EqV_gd | exact EqE_gd | refine gM_splitN ?_ ?_ | refine gM_split ?_ ?_ |  refine condM_splitDN ?_ ?_ | refine condM_splitD ?_ ?_ | refine condM_splitN ?_ ?_ | refine condM_split ?_ ?_ | refine condM_any ?_ ?_ | intro _) | (simp [*]))
      refine awp_for3 (fun (k : Nat) => k ≤ m.length ∧ allD shortB m k = A) [0] (fun (k : Nat) => [(3, .w false false (.int .i64 k))]) [] (fun (k : Nat) => []) (fun (k : Nat) => m.length - k) (fun (_u : Unit) => A = true) [] (fun (_u : Unit) => []) [] (fun (_u : Unit) => []) (0) ⟨Nat.zero_le _, kA⟩ (by simp) (by simp) (fun k hk => ?_) (fun _u hf => ?_)
      · obtain ⟨hk, hj⟩ := hk
        by_cases hlt : k < m.length
        · rw [allD_step hlt] at hj
          have c1 := short_c (nth m k)
          unfold cEntry at c1
          cases hr : shortB (nth m k) with
          | false =>
            have hA : A = false := by rw [← hj, hr]; rfl
            rw [hr] at c1
            clear hj kA hr
            subst hA
            repeat' (first | (with_reducible first | refine awp_seq ?_ | refine awp_blockS ?_ | refine awp_blockC ?_ | refine awp_blockR ?_ | refine awp_skip ?_ | refine awp_ret ?_ | refine awp_exit ?_ | refine awp_region ?_ | refine awp_condM ?_ | refine And.intro ?_ ?_ | apply gQ_merge | apply gE_merge | exact EqV_w | exact EqE_w | exact EqV_ptr | exact EqE_ptr | exact EqV_msl | exact EqE_msl | exact EqV_agg | exact EqE_agg | exact EqV_fn | exact EqE_fn | exact EqV_gd | exact EqE_gd | refine gM_splitN ?_ ?_ | refine gM_split ?_ ?_ |  refine condM_splitDN ?_ ?_ | refine condM_splitD ?_ ?_ | refine condM_splitN ?_ ?_ | refine condM_split ?_ ?_ | refine condM_any ?_ ?_ | refine cw (c1) ?_ | intro _) | (simp [*, hlt, cEntry]) | (refine cw_eq (c1) ?_ ?_; (· (simp [*]; done))))
            all_goals try first | exact inI64 (by omega) (by omega) | omega
          | true =>
            have kj : Keep (allD shortB m (k + 1) = A) := keep (by rw [← hj, hr, Bool.true_and])
            rw [hr] at c1
            clear hj hr
            repeat' (first | (with_reducible first | refine awp_seq ?_ | refine awp_blockS ?_ | refine awp_blockC ?_ | refine awp_blockR ?_ | refine awp_skip ?_ | refine awp_ret ?_ | refine awp_exit ?_ | refine awp_region ?_ | refine awp_condM ?_ | refine And.intro ?_ ?_ | apply gQ_merge | apply gE_merge | exact EqV_w | exact EqE_w | exact EqV_ptr | exact EqE_ptr | exact EqV_msl | exact EqE_msl | exact EqV_agg | exact EqE_agg | exact EqV_fn | exact EqE_fn | exact EqV_gd | exact EqE_gd | refine gM_splitN ?_ ?_ | refine gM_split ?_ ?_ |  refine condM_splitDN ?_ ?_ | refine condM_splitD ?_ ?_ | refine condM_splitN ?_ ?_ | refine condM_split ?_ ?_ | refine condM_any ?_ ?_ | refine cw (c1) ?_ | intro _) | (simp [*, hlt, cEntry]) | (refine cw_eq (c1) ?_ ?_; (· (simp [*]; done))))
            all_goals first
              | exact inI64 (by omega) (by omega)
              | omega
              | (refine loopK_normal _ _ _ _ _ (k + 1) _ ?_ (by first | omega | (dsimp only; omega) | (simp; omega)) ?_; (· exact ⟨by omega, kj⟩); (refine le_of ?_ ?_ <;> first | trivial | (simp [*]; done)))
              | skip
        · have hke : k = m.length := by omega
          subst hke
          rw [allD_end] at hj
          have kj := keep hj.symm
          clear hj kA
          repeat' (first | (with_reducible first | refine awp_seq ?_ | refine awp_blockS ?_ | refine awp_blockC ?_ | refine awp_blockR ?_ | refine awp_skip ?_ | refine awp_ret ?_ | refine awp_exit ?_ | refine awp_region ?_ | refine awp_condM ?_ | refine And.intro ?_ ?_ | apply gQ_merge | apply gE_merge | exact EqV_w | exact EqE_w | exact EqV_ptr | exact EqE_ptr | exact EqV_msl | exact EqE_msl | exact EqV_agg | exact EqE_agg | exact EqV_fn | exact EqE_fn | exact EqV_gd | exact EqE_gd | refine gM_splitN ?_ ?_ | refine gM_split ?_ ?_ |  refine condM_splitDN ?_ ?_ | refine condM_splitD ?_ ?_ | refine condM_splitN ?_ ?_ | refine condM_split ?_ ?_ | refine condM_any ?_ ?_ | intro _) | (simp [*]))
          all_goals (refine finW_intro () ?_ ?_; (· exact kj); (refine le_of ?_ ?_ <;> first | trivial | (simp [*]; done)))
      · subst hf
        clear kA
        repeat' (first | (with_reducible first | refine awp_seq ?_ | refine awp_blockS ?_ | refine awp_blockC ?_ | refine awp_blockR ?_ | refine awp_skip ?_ | refine awp_ret ?_ | refine awp_exit ?_ | refine awp_region ?_ | refine awp_condM ?_ | refine And.intro ?_ ?_ | apply gQ_merge | apply gE_merge | exact EqV_w | exact EqE_w | exact EqV_ptr | exact EqE_ptr | exact EqV_msl | exact EqE_msl | exact EqV_agg | exact EqE_agg | exact EqV_fn | exact EqE_fn | exact EqV_gd | exact EqE_gd | refine gM_splitN ?_ ?_ | refine gM_split ?_ ?_ |  refine condM_splitDN ?_ ?_ | refine condM_splitD ?_ ?_ | refine condM_splitN ?_ ?_ | refine condM_split ?_ ?_ | refine condM_any ?_ ?_ | intro _) | (simp [*]))
def bookB (b : Book) : Bool := fewB b.accs && shortsB b.entries
theorem smallBook_c (b : Book) : RealCall Tryz.prog 43 [.agg (cBook b)] (.bool (bookB b)) true := by
  have c1 := few_c b.accs
  have c2 := shorts_c b.entries
  unfold bookB cBook
  generalize fewB b.accs = x at *
  generalize shortsB b.entries = y at *
  refine realcall_intro Tryz.func43 (by kernel_rfl) rfl (Nat.le_of_ble_eq_true (by kernel_rfl)) ?_
  simp only [Tryz.results43, Tryz.ntmps43]
  repeat' (first | (with_reducible first | refine awp_seq ?_ | refine awp_blockS ?_ | refine awp_blockC ?_ | refine awp_blockR ?_ | refine awp_skip ?_ | refine awp_ret ?_ | refine awp_exit ?_ | refine awp_region ?_ | refine awp_condM ?_ | refine And.intro ?_ ?_ | apply gQ_merge | apply gE_merge | exact EqV_w | exact EqE_w | exact EqV_ptr | exact EqE_ptr | exact EqV_msl | exact EqE_msl | exact EqV_agg | exact EqE_agg | exact EqV_fn | exact EqE_fn | exact EqV_gd | exact EqE_gd | refine gM_splitN ?_ ?_ | refine gM_split ?_ ?_ |  refine condM_splitDN ?_ ?_ | refine condM_splitD ?_ ?_ | refine condM_splitN ?_ ?_ | refine condM_split ?_ ?_ | refine condM_any ?_ ?_ | refine cw (c1) ?_ | refine cw (c2) ?_ | intro _) | (simp [*]) | (refine cw_eq (c1) ?_ ?_; (· (simp [*]; done))) | (refine cw_eq (c2) ?_ ?_; (· (simp [*]; done))))
theorem bookB_in {b : Book} (h : bookB b = true) : BookIn b := by
  unfold bookB at h
  rw [Bool.and_eq_true] at h
  have h2 := h.2
  unfold shortsB at h2
  rw [Bool.and_eq_true] at h2
  have h3 := h2.1
  simp at h3
  exact ⟨fewB_in h.1, by omega, fun k hk => shortB_in (List.all_eq_true.1 h2.2 (nth b.entries k) (by simp [nth, List.getD_eq_getElem?_getD, List.getElem?_eq_getElem hk]))⟩
theorem bookErr_c (b : Book) (hb : BookIn b) : RealCall Tryz.prog 47 [.agg (cBook b)] (.int .i64 (bookS b).2) true := by
  have c1 := rCheckBook_c b hb
  unfold pairI at c1
  generalize bookS b = q at *
  unfold cBook at *
  refine realcall_intro Tryz.func47 (by kernel_rfl) rfl (Nat.le_of_ble_eq_true (by kernel_rfl)) ?_
  simp only [Tryz.results47, Tryz.ntmps47]
  repeat' (first | (with_reducible first | refine awp_seq ?_ | refine awp_blockS ?_ | refine awp_blockC ?_ | refine awp_blockR ?_ | refine awp_skip ?_ | refine awp_ret ?_ | refine awp_exit ?_ | refine awp_region ?_ | refine awp_condM ?_ | refine And.intro ?_ ?_ | apply gQ_merge | apply gE_merge | exact EqV_w | exact EqE_w | exact EqV_ptr | exact EqE_ptr | exact EqV_msl | exact EqE_msl | exact EqV_agg | exact EqE_agg | exact EqV_fn | exact EqE_fn | exact EqV_gd | exact EqE_gd | refine gM_splitN ?_ ?_ | refine gM_split ?_ ?_ |  refine condM_splitDN ?_ ?_ | refine condM_splitD ?_ ?_ | refine condM_splitN ?_ ?_ | refine condM_split ?_ ?_ | refine condM_any ?_ ?_ | refine cw (c1) ?_ | intro _) | (simp [*]) | (refine cw_eq (c1) ?_ ?_; (· (simp [*]; done))))
def entsA (l : List Entry) (k : Nat) : List AV := (cEntries (l.take k)).map (.w true false)
theorem entsA_len (l : List Entry) (k : Nat) (h : k ≤ l.length) : (entsA l k).length = k * 3 := by simp [entsA, Nat.min_eq_left h]
@[simp] theorem entsA_zero (l : List Entry) : entsA l 0 = [] := rfl
theorem entsA_succ (l : List Entry) (k : Nat) (h : k < l.length) : entsA l (k + 1) = entsA l k ++ [.w true false (.int .i64 (nth l k).date), .w true false (.str (nth l k).note), .w true false (.sl (nth l k).lines.length (cLines (nth l k).lines))] := by
  unfold entsA cEntries
  rw [take_succ_nth l k h, List.flatMap_append, List.map_append]
  rfl
@[simp] theorem entsA_lt (l : List Entry) (k n : Nat) : AV.lt.ltL n (entsA l k) = true := ltL_map n true false _
@[simp] theorem entsA_self {D : List Nat} {h : Heap} {n n' : Nat} (l : List Entry) (k : Nat) : cellsLe D h n n' (entsA l k) (entsA l k) = True := eq_true (cellsLe_w true false _)
theorem entsA_all (l : List Entry) : entsA l l.length = (cEntries l).map (.w true false) := by simp [entsA]
set_option maxHeartbeats 1000000 in
theorem copyEntries_c (l : List Entry) (hl : l.length < 10000) (he : ∀ k, k < l.length → EntryIn (nth l k)) : RealCall Tryz.prog 65 [.sl l.length (cEntries l)] (.sl l.length (cEntries l)) true := by
  refine realcall_intro Tryz.func65 (by kernel_rfl) rfl (Nat.le_of_ble_eq_true (by kernel_rfl)) ?_
  simp only [Tryz.results65, Tryz.ntmps65]
  repeat' (first | (with_reducible first | refine awp_seq ?_ | refine awp_blockS ?_ | refine awp_blockC ?_ | refine awp_blockR ?_ | refine awp_skip ?_ | refine awp_ret ?_ | refine awp_exit ?_ | refine awp_region ?_ | refine awp_condM ?_ | refine And.intro ?_ ?_ | apply gQ_merge | apply gE_merge | exact EqV_w | exact EqE_w | exact EqV_ptr | exact EqE_ptr | exact EqV_msl | exact EqE_msl | exact EqV_agg | exact EqE_agg | exact EqV_fn | exact EqE_fn | exact EqV_gd | exact EqE_gd | refine gM_splitN ?_ ?_ | refine gM_split ?_ ?_ |  refine condM_splitDN ?_ ?_ | refine condM_splitD ?_ ?_ | refine condM_splitN ?_ ?_ | refine condM_split ?_ ?_ | refine condM_any ?_ ?_ | intro _) | (simp [*]))
  refine awp_for4 1 (fun (k : Nat) => k ≤ l.length) [0] (fun (k : Nat) => [(3, .msl 0 (k * 3) 3 0 k), (4, .w false false (.int .i64 k))]) [] (fun (k : Nat) => [(0, entsA l k)]) (fun (k : Nat) => l.length - k) (fun (_u : Unit) => True) [] (fun (_u : Unit) => [(3, .msl 0 (l.length * 3) 3 0 l.length)]) [] (fun (_u : Unit) => [(0, entsA l l.length)]) (0) (Nat.zero_le _) (le_gen [] (by simp) (by simp)) (fun k hk => ?_) (fun _u hf => ?_)
  · by_cases hlt : k < l.length
    · have hr1 := (he k hlt).len
      clear he
      have cc := copyEntry_c (nth l k) (by omega)
      unfold cEntry at cc
      have hlen := entsA_len l k hk
      have ks := keep (entsA_succ l k hlt)
      repeat' (first | (with_reducible first | refine awp_seq ?_ | refine awp_blockS ?_ | refine awp_blockC ?_ | refine awp_blockR ?_ | refine awp_skip ?_ | refine awp_ret ?_ | refine awp_exit ?_ | refine awp_region ?_ | refine awp_condM ?_ | refine And.intro ?_ ?_ | apply gQ_merge | apply gE_merge | exact EqV_w | exact EqE_w | exact EqV_ptr | exact EqE_ptr | exact EqV_msl | exact EqE_msl | exact EqV_agg | exact EqE_agg | exact EqV_fn | exact EqE_fn | exact EqV_gd | exact EqE_gd | refine gM_splitN ?_ ?_ | refine gM_split ?_ ?_ |  refine condM_splitDN ?_ ?_ | refine condM_splitD ?_ ?_ | refine condM_splitN ?_ ?_ | refine condM_split ?_ ?_ | refine condM_any ?_ ?_ | refine cw (cc) ?_ | intro _) | (simp [*, hlt, hlen, cEntry]) | (refine cw_eq (cc) ?_ ?_; (· (simp [*]; done))))
      all_goals first
        | exact inI64 (by omega) (by omega)
        | omega
        | (refine loopK_normal _ _ _ _ _ (k + 1) _ ?_ (by first | omega | (dsimp only; omega) | (simp; omega)) ?_; (· omega); (refine le_gen [] ?_ ?_ <;> first | trivial | (simp [*, entsA_succ l k hlt, Nat.add_mul]; done)))
        | skip
    · have hke : k = l.length := by omega
      subst hke
      clear he
      repeat' (first | (with_reducible first | refine awp_seq ?_ | refine awp_blockS ?_ | refine awp_blockC ?_ | refine awp_blockR ?_ | refine awp_skip ?_ | refine awp_ret ?_ | refine awp_exit ?_ | refine awp_region ?_ | refine awp_condM ?_ | refine And.intro ?_ ?_ | apply gQ_merge | apply gE_merge | exact EqV_w | exact EqE_w | exact EqV_ptr | exact EqE_ptr | exact EqV_msl | exact EqE_msl | exact EqV_agg | exact EqE_agg | exact EqV_fn | exact EqE_fn | exact EqV_gd | exact EqE_gd | refine gM_splitN ?_ ?_ | refine gM_split ?_ ?_ |  refine condM_splitDN ?_ ?_ | refine condM_splitD ?_ ?_ | refine condM_splitN ?_ ?_ | refine condM_split ?_ ?_ | refine condM_any ?_ ?_ | intro _) | (simp [*]))
      all_goals (refine finW_intro () ?_ ?_; (· trivial); (refine le_gen [] ?_ ?_ <;> first | trivial | (simp [*]; done)))
  · clear he
    have hlen := entsA_len l l.length (Nat.le_refl _)
    rw [entsA_all]
    repeat' (first | (with_reducible first | refine awp_seq ?_ | refine awp_blockS ?_ | refine awp_blockC ?_ | refine awp_blockR ?_ | refine awp_skip ?_ | refine awp_ret ?_ | refine awp_exit ?_ | refine awp_region ?_ | refine awp_condM ?_ | refine And.intro ?_ ?_ | apply gQ_merge | apply gE_merge | exact EqV_w | exact EqE_w | exact EqV_ptr | exact EqE_ptr | exact EqV_msl | exact EqE_msl | exact EqV_agg | exact EqE_agg | exact EqV_fn | exact EqE_fn | exact EqV_gd | exact EqE_gd | refine gM_splitN ?_ ?_ | refine gM_split ?_ ?_ |  refine condM_splitDN ?_ ?_ | refine condM_splitD ?_ ?_ | refine condM_splitN ?_ ?_ | refine condM_split ?_ ?_ | refine condM_any ?_ ?_ | intro _) | (simp [*, hlen]))
theorem copyBook_c (b : Book) (hb : BookIn b) : RealCall Tryz.prog 45 [.agg (cBook b)] (.agg (cBook b)) true := by
  have c1 := copyNames_c b.accs (by have := hb.accs.len; omega)
  have c2 := copyEntries_c b.entries hb.len hb.ent
  clear hb
  unfold cBook
  refine realcall_intro Tryz.func45 (by kernel_rfl) rfl (Nat.le_of_ble_eq_true (by kernel_rfl)) ?_
  simp only [Tryz.results45, Tryz.ntmps45]
  repeat' (first | (with_reducible first | refine awp_seq ?_ | refine awp_blockS ?_ | refine awp_blockC ?_ | refine awp_blockR ?_ | refine awp_skip ?_ | refine awp_ret ?_ | refine awp_exit ?_ | refine awp_region ?_ | refine awp_regionD (id := 1) 9 mixed (by decide +kernel) ?_ | refine awp_condM ?_ | refine And.intro ?_ ?_ | apply gQ_merge | apply gE_merge | exact EqV_w | exact EqE_w | exact EqV_ptr | exact EqE_ptr | exact EqV_msl | exact EqE_msl | exact EqV_agg | exact EqE_agg | exact EqV_fn | exact EqE_fn | exact EqV_gd | exact EqE_gd | refine gM_splitN ?_ ?_ | refine gM_split ?_ ?_ |  refine condM_splitDN ?_ ?_ | refine condM_splitD ?_ ?_ | refine condM_splitN ?_ ?_ | refine condM_split ?_ ?_ | refine condM_any ?_ ?_ | refine cw (c1) ?_ | refine cw (c2) ?_ | intro _) | (simp [*]) | (refine cw_eq (c1) ?_ ?_; (· (simp [*]; done))) | (refine cw_eq (c2) ?_ ?_; (· (simp [*]; done))))
end Go.Proofs.YtdgbfbgnbgfmjaaGreatDoor
namespace Go.Proofs.YtdgbfbgnbgfmjaaGreatDoor
open Go Go.Fi
set_option maxRecDepth 20000
attribute [-simp] cEntries_drop2

/-! ### AccountBalances -/
def balE (b : Book) (n : ByteArray) (d : Int) : Int := firstS [(bookS b).2, errUnless (hasS b.accs n) 6, dateE d]
def balOfS (b : Book) (n : ByteArray) (d : Int) : Int × Int := if balE b n d = 0 then (balS n d b.entries, 0) else (0, balE b n d)
theorem balanceOf_c (b : Book) (hb : BookIn b) (n : ByteArray) (d : Int) : RealCall Tryz.prog 44 [.agg (cBook b), .str n, .int .i64 d] (.tup [.int .i64 (balOfS b n d).1, .int .i64 (balOfS b n d).2]) true := by
  have c1 := open_c b hb
  have c2 := accountErr_c b (by have := hb.accs.len; omega) n
  have c3 := dateErr_c d
  have c4 := first3_c (bookS b).2 (errUnless (hasS b.accs n) 6) (dateE d)
  change RealCall _ _ _ (.int .i64 (balE b n d)) true at c4
  unfold balOfS
  by_cases h : balE b n d = 0
  · rw [if_pos h]
    have hb0 := firstS_zero h (bookS b).2 (by simp)
    have c5 := balance_c b n d (bookS_zero hb0).tight.ents
    rw [h] at c4
    rw [hb0] at c1 c4
    clear h hb0
    generalize balS n d b.entries = S at *
    unfold cBook at *
    refine realcall_intro Tryz.func44 (by kernel_rfl) rfl (Nat.le_of_ble_eq_true (by kernel_rfl)) ?_
    simp only [Tryz.results44, Tryz.ntmps44]
    repeat' (first | (with_reducible first | refine awp_seq ?_ | refine awp_blockS ?_ | refine awp_blockC ?_ | refine awp_blockR ?_ | refine awp_skip ?_ | refine awp_ret ?_ | refine awp_exit ?_ | refine awp_region ?_ | refine awp_condM ?_ | refine And.intro ?_ ?_ | apply gQ_merge | apply gE_merge | exact EqV_w | exact EqE_w | exact EqV_ptr | exact EqE_ptr | exact EqV_msl | exact EqE_msl | exact EqV_agg | exact EqE_agg | exact EqV_fn | exact EqE_fn | exact EqV_gd | exact EqE_gd | refine gM_splitN ?_ ?_ | refine gM_split ?_ ?_ |  refine condM_splitDN ?_ ?_ | refine condM_splitD ?_ ?_ | refine condM_splitN ?_ ?_ | refine condM_split ?_ ?_ | refine condM_any ?_ ?_ | refine cw (c1) ?_ | refine cw (c2) ?_ | refine cw (c3) ?_ | refine cw (c4) ?_ | refine cw (c5) ?_ | intro _) | (simp [*]) | (refine cw_eq (c1) ?_ ?_; (· (simp [*]; done))) | (refine cw_eq (c2) ?_ ?_; (· (simp [*]; done))) | (refine cw_eq (c3) ?_ ?_; (· (simp [*]; done))) | (refine cw_eq (c4) ?_ ?_; (· (simp [*]; done))) | (refine cw_eq (c5) ?_ ?_; (· (simp [*]; done))))
  · rw [if_neg h]
    generalize balE b n d = X at *
    generalize (bookS b).2 = Y at *
    unfold cBook at *
    refine realcall_intro Tryz.func44 (by kernel_rfl) rfl (Nat.le_of_ble_eq_true (by kernel_rfl)) ?_
    simp only [Tryz.results44, Tryz.ntmps44]
    repeat' (first | (with_reducible first | refine awp_seq ?_ | refine awp_blockS ?_ | refine awp_blockC ?_ | refine awp_blockR ?_ | refine awp_skip ?_ | refine awp_ret ?_ | refine awp_exit ?_ | refine awp_region ?_ | refine awp_condM ?_ | refine And.intro ?_ ?_ | apply gQ_merge | apply gE_merge | exact EqV_w | exact EqE_w | exact EqV_ptr | exact EqE_ptr | exact EqV_msl | exact EqE_msl | exact EqV_agg | exact EqE_agg | exact EqV_fn | exact EqE_fn | exact EqV_gd | exact EqE_gd | refine gM_splitN ?_ ?_ | refine gM_split ?_ ?_ |  refine condM_splitDN ?_ ?_ | refine condM_splitD ?_ ?_ | refine condM_splitN ?_ ?_ | refine condM_split ?_ ?_ | refine condM_any ?_ ?_ | refine cw (c1) ?_ | refine cw (c2) ?_ | refine cw (c3) ?_ | refine cw (c4) ?_ | intro _) | (simp [*, h]) | (refine cw_eq (c1) ?_ ?_; (· (simp [*]; done))) | (refine cw_eq (c2) ?_ ?_; (· (simp [*]; done))) | (refine cw_eq (c3) ?_ ?_; (· (simp [*]; done))) | (refine cw_eq (c4) ?_ ?_; (· (simp [*]; done))))
def balL (f : ByteArray → Int) (l : List Acc) : Nat → List Int
  | 0 => []
  | k + 1 => balL f l k ++ [f (nth l k).name]
@[simp] theorem balL_zero (f : ByteArray → Int) (l : List Acc) : balL f l 0 = [] := rfl
theorem balL_succ (f : ByteArray → Int) (l : List Acc) (k : Nat) : balL f l (k + 1) = balL f l k ++ [f (nth l k).name] := rfl
@[simp] theorem balL_len (f : ByteArray → Int) (l : List Acc) : ∀ k, (balL f l k).length = k
  | 0 => rfl
  | k + 1 => by rw [balL_succ, List.length_append, balL_len f l k]; rfl
def balF (b : Book) (n : ByteArray) : Int := balS n 100000 b.entries
set_option maxHeartbeats 1000000 in
theorem balances_ok (b : Book) (hb : BookIn b) (h : (bookS b).2 = 0) : RealCall Tryz.prog 46 [.agg (cBook b)] (.tup [.sl b.accs.length (ints (balL (balF b) b.accs b.accs.length)), .int .i64 0]) true := by
  have c1 := open_c b hb
  rw [h] at c1
  have ht := (bookS_zero h).tight
  have hfa : ∀ x, RealCall Tryz.prog 118 [.agg (cBook b), .str x, .int .i64 100000] (.int .i64 (balF b x)) true := fun x => balance_c b x 100000 ht.ents
  have kfa := keep hfa
  have hlen := hb.accs.len
  clear hfa ht hb h
  generalize balF b = f at *
  obtain ⟨ba, be, bc⟩ := b
  unfold cBook at *
  dsimp only at *
  refine realcall_intro Tryz.func46 (by kernel_rfl) rfl (Nat.le_of_ble_eq_true (by kernel_rfl)) ?_
  simp only [Tryz.results46, Tryz.ntmps46]
  repeat' (first | (with_reducible first | refine awp_seq ?_ | refine awp_blockS ?_ | refine awp_blockC ?_ | refine awp_blockR ?_ | refine awp_skip ?_ | refine awp_ret ?_ | refine awp_exit ?_ | refine awp_region ?_ | refine awp_condM ?_ | refine And.intro ?_ ?_ | apply gQ_merge | apply gE_merge | exact EqV_w | exact EqE_w | exact EqV_ptr | exact EqE_ptr | exact EqV_msl | exact EqE_msl | exact EqV_agg | exact EqE_agg | exact EqV_fn | exact EqE_fn | exact EqV_gd | exact EqE_gd | refine gM_splitN ?_ ?_ | refine gM_split ?_ ?_ |  refine condM_splitDN ?_ ?_ | refine condM_splitD ?_ ?_ | refine condM_splitN ?_ ?_ | refine condM_split ?_ ?_ | refine condM_any ?_ ?_ | refine cw (c1) ?_ | intro _) | (simp [*]) | (refine cw_eq (c1) ?_ ?_; (· (simp [*]; done))))
  refine awp_for4 3 (fun (k : Nat) => k ≤ ba.length) [4, 18, 19] (fun (k : Nat) => [(6, .msl 2 k 1 0 k), (20, .w false false (.int .i64 k))]) [1] (fun (k : Nat) => [(2, iA (balL f ba k))]) (fun (k : Nat) => ba.length - k) (fun (_u : Unit) => True) [] (fun (_u : Unit) => [(6, .msl 2 ba.length 1 0 ba.length)]) [] (fun (_u : Unit) => [(2, iA (balL f ba ba.length))]) (0) (Nat.zero_le _) (le_gen [] (by simp) (by simp)) (fun k hk => ?_) (fun _u hf => ?_)
  · clear c1
    by_cases hlt : k < ba.length
    · have c2 := (show ∀ x, RealCall Tryz.prog 118 [.agg [.sl ba.length (cAccs ba), .sl be.length (cEntries be), .int .i64 bc], .str x, .int .i64 100000] (.int .i64 (f x)) true from kfa) (nth ba k).name
      have hL := balL_len f ba k
      have ks := keep (balL_succ f ba k)
      clear kfa
      generalize balL f ba k = L at *
      repeat' (first | (with_reducible first | refine awp_seq ?_ | refine awp_blockS ?_ | refine awp_blockC ?_ | refine awp_blockR ?_ | refine awp_skip ?_ | refine awp_ret ?_ | refine awp_exit ?_ | refine awp_region ?_ | refine awp_condM ?_ | refine And.intro ?_ ?_ | apply gQ_merge | apply gE_merge | exact EqV_w | exact EqE_w | exact EqV_ptr | exact EqE_ptr | exact EqV_msl | exact EqE_msl | exact EqV_agg | exact EqE_agg | exact EqV_fn | exact EqE_fn | exact EqV_gd | exact EqE_gd | refine gM_splitN ?_ ?_ | refine gM_split ?_ ?_ |  refine condM_splitDN ?_ ?_ | refine condM_splitD ?_ ?_ | refine condM_splitN ?_ ?_ | refine condM_split ?_ ?_ | refine condM_any ?_ ?_ | refine cw (c2) ?_ | intro _) | (simp [*, hlt, cAcc, hL]) | (refine cw_eq (c2) ?_ ?_; (· (simp [*]; done))))
      all_goals first
        | exact inI64 (by omega) (by omega)
        | omega
        | (refine loopK_normal _ _ _ _ _ (k + 1) _ ?_ (by first | omega | (dsimp only; omega) | (simp; omega)) ?_; (· omega); (refine le_gen [] ?_ ?_ <;> first | trivial | (simp [*, (show balL f ba (k + 1) = _ from ks)]; done)))
        | skip
    · have hke : k = ba.length := by omega
      subst hke
      clear kfa
      repeat' (first | (with_reducible first | refine awp_seq ?_ | refine awp_blockS ?_ | refine awp_blockC ?_ | refine awp_blockR ?_ | refine awp_skip ?_ | refine awp_ret ?_ | refine awp_exit ?_ | refine awp_region ?_ | refine awp_condM ?_ | refine And.intro ?_ ?_ | apply gQ_merge | apply gE_merge | exact EqV_w | exact EqE_w | exact EqV_ptr | exact EqE_ptr | exact EqV_msl | exact EqE_msl | exact EqV_agg | exact EqE_agg | exact EqV_fn | exact EqE_fn | exact EqV_gd | exact EqE_gd | refine gM_splitN ?_ ?_ | refine gM_split ?_ ?_ |  refine condM_splitDN ?_ ?_ | refine condM_splitD ?_ ?_ | refine condM_splitN ?_ ?_ | refine condM_split ?_ ?_ | refine condM_any ?_ ?_ | intro _) | (simp [*]))
      all_goals (refine finW_intro () ?_ ?_; (· trivial); (refine le_gen [] ?_ ?_ <;> first | trivial | (simp [*]; done)))
  · clear c1 kfa
    have hL := balL_len f ba ba.length
    repeat' (first | (with_reducible first | refine awp_seq ?_ | refine awp_blockS ?_ | refine awp_blockC ?_ | refine awp_blockR ?_ | refine awp_skip ?_ | refine awp_ret ?_ | refine awp_exit ?_ | refine awp_region ?_ | refine awp_condM ?_ | refine And.intro ?_ ?_ | apply gQ_merge | apply gE_merge | exact EqV_w | exact EqE_w | exact EqV_ptr | exact EqE_ptr | exact EqV_msl | exact EqE_msl | exact EqV_agg | exact EqE_agg | exact EqV_fn | exact EqE_fn | exact EqV_gd | exact EqE_gd | refine gM_splitN ?_ ?_ | refine gM_split ?_ ?_ |  refine condM_splitDN ?_ ?_ | refine condM_splitD ?_ ?_ | refine condM_splitN ?_ ?_ | refine condM_split ?_ ?_ | refine condM_any ?_ ?_ | intro _) | (simp [*, hL]))
end Go.Proofs.YtdgbfbgnbgfmjaaGreatDoor

