/- Contracts of functions for this claim: lemmas alone. -/
import Derived.Test.YtlcimflkjfbaoaaGreatP57
import Derived.Test.YtlcimflkjfbaoaaGreatP67
import Derived.Test.YtlcimflkjfbaoaaGreatP81
set_option linter.unusedSimpArgs false
set_option linter.unusedVariables false
namespace Go.Proofs.YtlcimflkjfbaoaaGreat
open Go Go.Fi
set_option maxRecDepth 20000
attribute [-simp] cEntries_drop2

/-! ### a book in memory of its own, as a place -/
theorem frsL_own : ∀ l : List PV, AV.frs.frsL (l.map (.w true false)) = true
  | [] => rfl
  | x :: l => by
    have ih := frsL_own l
    show (AV.frs (.w true false x) && AV.frs.frsL (l.map (.w true false))) = true
    rw [ih]; rfl
@[simp] theorem entsA_frs (l : List Entry) (k : Nat) : AV.frs.frsL (entsA l k) = true := frsL_own _
@[simp] theorem entsA_sh (n : Nat) (l : List Entry) (k : Nat) : AV.sh.shL n (entsA l k) = entsA l k := shL_map n true false _
set_option maxHeartbeats 4000000 in
theorem copiedBook_mk (b : Book) (hb : BookIn b) : MkCall Tryz.prog 34 [.agg (cBook b)] [entsA b.entries b.entries.length] (.agg [.w true false (.sl b.accs.length (cAccs b.accs)), .msl 0 (b.entries.length * 3) 3 0 b.entries.length, .w false false (.int .i64 b.closed)]) := by
  have hal := hb.accs.len
  have hl := hb.len
  have he := hb.ent
  clear hb
  have c1 := cloneAccs_c b.accs (by omega)
  obtain ⟨ba, be, bc⟩ := b
  unfold cBook
  dsimp only at *
  refine mkcall_intro 3 [] Tryz.func34 (by kernel_rfl) rfl (Nat.le_of_ble_eq_true (by kernel_rfl)) (by simp) (by simp) ?_
  simp only [Tryz.results34, Tryz.ntmps34]
  repeat' (first | (with_reducible first | refine awp_seq ?_ | refine awp_blockS ?_ | refine awp_blockC ?_ | refine awp_blockR ?_ | refine awp_skip ?_ | refine awp_ret ?_ | refine awp_exit ?_ | refine awp_region ?_ | refine awp_regionD (id := 1) 9 mixed (by decide +kernel) ?_ | refine awp_regionD (id := 5) 5 mixed (by decide +kernel) ?_ | refine awp_condM ?_ | refine And.intro ?_ ?_ | apply gQ_merge | apply gE_merge | exact EqV_w | exact EqE_w | exact EqV_ptr | exact EqE_ptr | exact EqV_msl | exact EqE_msl | exact EqV_agg | exact EqE_agg | exact EqV_fn | exact EqE_fn | exact EqV_gd | exact EqE_gd | refine gM_splitN ?_ ?_ | refine gM_split ?_ ?_ |  refine condM_splitDN ?_ ?_ | refine condM_splitD ?_ ?_ | refine condM_splitN ?_ ?_ | refine condM_split ?_ ?_ | refine condM_any ?_ ?_ | refine cw (c1) ?_ | intro _) | (simp [*]) | (refine cw_eq (c1) ?_ ?_; (· (simp [*]; done))))
  refine awp_for4 4 (fun (k : Nat) => k ≤ be.length) [2, 3, 16, 17] (fun (k : Nat) => [(18, .w false false (.int .i64 k))]) [1] (fun (k : Nat) => [(2, [.w true false (.sl ba.length (cAccs ba)), .msl 3 (k * 3) 3 0 k, .w false false (.int .i64 bc)]), (3, entsA be k)]) (fun (k : Nat) => be.length - k) (fun (_u : Unit) => True) [2, 3] (fun (_u : Unit) => []) [1] (fun (_u : Unit) => [(2, [.w true false (.sl ba.length (cAccs ba)), .msl 3 (be.length * 3) 3 0 be.length, .w false false (.int .i64 bc)]), (3, entsA be be.length)]) (0) (Nat.zero_le _) (le_gen [] (by simp) (by simp)) (fun k hk => ?_) (fun _u hf => ?_)
  · by_cases hlt : k < be.length
    · have hr1 := (he k hlt).len
      clear he c1
      have cc := copied_c (nth be k) (by omega)
      unfold cEntry at cc
      have hlen := entsA_len be k hk
      have ks := keep (entsA_succ be k hlt)
      repeat' (first | (with_reducible first | refine awp_seq ?_ | refine awp_blockS ?_ | refine awp_blockC ?_ | refine awp_blockR ?_ | refine awp_skip ?_ | refine awp_ret ?_ | refine awp_exit ?_ | refine awp_region ?_ | refine awp_regionD (id := 1) 9 mixed (by decide +kernel) ?_ | refine awp_regionD (id := 5) 5 mixed (by decide +kernel) ?_ | refine awp_condM ?_ | refine And.intro ?_ ?_ | apply gQ_merge | apply gE_merge | exact EqV_w | exact EqE_w | exact EqV_ptr | exact EqE_ptr | exact EqV_msl | exact EqE_msl | exact EqV_agg | exact EqE_agg | exact EqV_fn | exact EqE_fn | exact EqV_gd | exact EqE_gd | refine gM_splitN ?_ ?_ | refine gM_split ?_ ?_ |  refine condM_splitDN ?_ ?_ | refine condM_splitD ?_ ?_ | refine condM_splitN ?_ ?_ | refine condM_split ?_ ?_ | refine condM_any ?_ ?_ | refine cw (cc) ?_ | intro _) | (simp [*, hlt, hlen, cEntry]) | (refine cw_eq (cc) ?_ ?_; (· (simp [*]; done))))
      all_goals first
        | exact inI64 (by omega) (by omega)
        | omega
        | (refine loopK_normal _ _ _ _ _ (k + 1) _ ?_ (by first | omega | (dsimp only; omega) | (simp; omega)) ?_; (· omega); (refine le_gen [] ?_ ?_ <;> first | trivial | (simp [*, entsA_succ be k hlt, Nat.add_mul]; done)))
        | skip
    · have hke : k = be.length := by omega
      subst hke
      clear he c1
      repeat' (first | (with_reducible first | refine awp_seq ?_ | refine awp_blockS ?_ | refine awp_blockC ?_ | refine awp_blockR ?_ | refine awp_skip ?_ | refine awp_ret ?_ | refine awp_exit ?_ | refine awp_region ?_ | refine awp_regionD (id := 1) 9 mixed (by decide +kernel) ?_ | refine awp_regionD (id := 5) 5 mixed (by decide +kernel) ?_ | refine awp_condM ?_ | refine And.intro ?_ ?_ | apply gQ_merge | apply gE_merge | exact EqV_w | exact EqE_w | exact EqV_ptr | exact EqE_ptr | exact EqV_msl | exact EqE_msl | exact EqV_agg | exact EqE_agg | exact EqV_fn | exact EqE_fn | exact EqV_gd | exact EqE_gd | refine gM_splitN ?_ ?_ | refine gM_split ?_ ?_ |  refine condM_splitDN ?_ ?_ | refine condM_splitD ?_ ?_ | refine condM_splitN ?_ ?_ | refine condM_split ?_ ?_ | refine condM_any ?_ ?_ | intro _) | (simp [*]))
      all_goals (refine finW_intro () ?_ ?_; (· trivial); (refine le_gen [] ?_ ?_ <;> first | trivial | (simp [*]; done)))
  · clear he c1
    have hlen := entsA_len be be.length (Nat.le_refl _)
    repeat' (first | (with_reducible first | refine awp_seq ?_ | refine awp_blockS ?_ | refine awp_blockC ?_ | refine awp_blockR ?_ | refine awp_skip ?_ | refine awp_ret ?_ | refine awp_exit ?_ | refine awp_region ?_ | refine awp_regionD (id := 1) 9 mixed (by decide +kernel) ?_ | refine awp_regionD (id := 5) 5 mixed (by decide +kernel) ?_ | refine awp_condM ?_ | refine And.intro ?_ ?_ | apply gQ_merge | apply gE_merge | exact EqV_w | exact EqE_w | exact EqV_ptr | exact EqE_ptr | exact EqV_msl | exact EqE_msl | exact EqV_agg | exact EqE_agg | exact EqV_fn | exact EqE_fn | exact EqV_gd | exact EqE_gd | refine gM_splitN ?_ ?_ | refine gM_split ?_ ?_ |  refine condM_splitDN ?_ ?_ | refine condM_splitD ?_ ?_ | refine condM_splitN ?_ ?_ | refine condM_split ?_ ?_ | refine condM_any ?_ ?_ | intro _) | (simp [*, hlen]))
end Go.Proofs.YtlcimflkjfbaoaaGreat
namespace Go.Proofs.YtlcimflkjfbaoaaGreat
open Go Go.Fi
set_option maxRecDepth 20000
attribute [-simp] cEntries_drop2

/-! ### where an entry is put -/
def searchF (p : Nat → Bool) : Nat → Nat → Nat → Nat
  | 0, i, _ => i
  | m + 1, i, j => if i < j then (if p ((i + j) / 2) = true then searchF p m i ((i + j) / 2) else searchF p m ((i + j) / 2 + 1) j) else i
set_option maxHeartbeats 4000000 in
theorem search_c (N : Nat) (hN : N ≤ 1000000) (g : Nat) (caps : List PV) (p : Nat → Bool) (hg : ∀ k : Nat, k < N → RealCall Tryz.prog g (.int .i64 k :: caps) (.bool (p k)) true) :
    RealCall Tryz.prog 35 [.int .i64 N, .fn g caps] (.int .i64 (searchF p N 0 N)) true := by
  generalize hR : searchF p N 0 N = R
  have kg := keep hg
  clear hg
  refine realcall_intro Tryz.func35 (by kernel_rfl) rfl (Nat.le_of_ble_eq_true (by kernel_rfl)) ?_
  simp only [Tryz.results35, Tryz.ntmps35]
  repeat' (first | (with_reducible first | refine awp_seq ?_ | refine awp_blockS ?_ | refine awp_blockC ?_ | refine awp_blockR ?_ | refine awp_skip ?_ | refine awp_ret ?_ | refine awp_exit ?_ | refine awp_region ?_ | refine awp_condM ?_ | refine And.intro ?_ ?_ | refine gE_splitN ?_ ?_ | refine gE_split ?_ ?_ | refine gQ_splitN ?_ ?_ | refine gQ_split ?_ ?_ | refine gM_splitN ?_ ?_ | refine gM_split ?_ ?_ | refine condM_splitDN ?_ ?_ | refine condM_splitD ?_ ?_ | refine condM_splitN ?_ ?_ | refine condM_split ?_ ?_ | refine condM_any ?_ ?_ | intro _) | (simp [*]))
  refine awp_for3 (fun (x : Nat × Nat × Nat) => x.2.2 ≤ x.1 + x.2.1 ∧ x.2.2 ≤ N ∧ x.2.1 ≤ N ∧ searchF p x.1 x.2.1 x.2.2 = R) [1] (fun (x : Nat × Nat × Nat) => [(5, .w false false (.int .i64 x.2.1)), (6, .w false false (.int .i64 x.2.2))]) [] (fun (x : Nat × Nat × Nat) => []) (fun (x : Nat × Nat × Nat) => x.1) (fun (_u : Unit) => True) [] (fun (_u : Unit) => [(5, .w false false (.int .i64 R))]) [] (fun (_u : Unit) => []) ((N, 0, N)) ⟨by simp, Nat.le_refl _, Nat.zero_le _, hR⟩ (by simp) (by simp) (fun x hk => ?_) (fun _u hf => ?_)
  · obtain ⟨m, i, j⟩ := x
    obtain ⟨h1, h2, h4, h3⟩ := hk
    dsimp only at h1 h2 h3 h4 ⊢
    by_cases hlt : i < j
    · cases m with
      | zero => omega
      | succ m =>
        have hmid : ((i : Int) + (j : Int)) / 2 = (((i + j) / 2 : Nat) : Int) := by omega
        have e : searchF p (m + 1) i j = if p ((i + j) / 2) = true then searchF p m i ((i + j) / 2) else searchF p m ((i + j) / 2 + 1) j := if_pos hlt
        rw [e] at h3
        have hc := kg ((i + j) / 2) (by omega)
        have hb1 : i ≤ (i + j) / 2 := by omega
        have hb2 : (i + j) / 2 < j := by omega
        clear e
        generalize hq : (i + j) / 2 = q at *
        cases hp : p q with
        | true =>
          rw [hp] at hc
          rw [if_pos hp] at h3
          clear kg hp hq
          repeat' (first | (with_reducible first | refine awp_seq ?_ | refine awp_blockS ?_ | refine awp_blockC ?_ | refine awp_blockR ?_ | refine awp_skip ?_ | refine awp_ret ?_ | refine awp_exit ?_ | refine awp_region ?_ | refine awp_condM ?_ | refine And.intro ?_ ?_ | refine gE_splitN ?_ ?_ | refine gE_split ?_ ?_ | refine gQ_splitN ?_ ?_ | refine gQ_split ?_ ?_ | refine gM_splitN ?_ ?_ | refine gM_split ?_ ?_ | refine condM_splitDN ?_ ?_ | refine condM_splitD ?_ ?_ | refine condM_splitN ?_ ?_ | refine condM_split ?_ ?_ | refine condM_any ?_ ?_ | refine cw (hc) ?_ | intro _) | (simp [*, hlt, hmid]))
          all_goals first
            | exact inI64 (by omega) (by omega)
            | exact inU64 (by omega) (by omega)
            | omega
            | (refine loopK_normal _ _ _ _ _ (m, i, q) _ ?_ (by first | omega | (dsimp only; omega) | (simp; omega)) ?_; (· exact ⟨by dsimp only; omega, by dsimp only; omega, h4, h3⟩); (refine le_of ?_ ?_ <;> first | trivial | (simp [*]; done)))
            | skip
        | false =>
          rw [hp] at hc
          rw [if_neg (by rw [hp]; decide)] at h3
          clear kg hp hq
          repeat' (first | (with_reducible first | refine awp_seq ?_ | refine awp_blockS ?_ | refine awp_blockC ?_ | refine awp_blockR ?_ | refine awp_skip ?_ | refine awp_ret ?_ | refine awp_exit ?_ | refine awp_region ?_ | refine awp_condM ?_ | refine And.intro ?_ ?_ | refine gE_splitN ?_ ?_ | refine gE_split ?_ ?_ | refine gQ_splitN ?_ ?_ | refine gQ_split ?_ ?_ | refine gM_splitN ?_ ?_ | refine gM_split ?_ ?_ | refine condM_splitDN ?_ ?_ | refine condM_splitD ?_ ?_ | refine condM_splitN ?_ ?_ | refine condM_split ?_ ?_ | refine condM_any ?_ ?_ | refine cw (hc) ?_ | intro _) | (simp [*, hlt, hmid]))
          all_goals first
            | exact inI64 (by omega) (by omega)
            | exact inU64 (by omega) (by omega)
            | omega
            | (refine loopK_normal _ _ _ _ _ (m, q + 1, j) _ ?_ (by first | omega | (dsimp only; omega) | (simp; omega)) ?_; (· exact ⟨by dsimp only; omega, h2, by dsimp only; omega, h3⟩); (refine le_of ?_ ?_ <;> first | trivial | (simp [*]; done)))
            | skip
    · have e : searchF p m i j = i := by
        cases m with
        | zero => rfl
        | succ m => exact if_neg hlt
      rw [e] at h3
      subst h3
      repeat' (first | (with_reducible first | refine awp_seq ?_ | refine awp_blockS ?_ | refine awp_blockC ?_ | refine awp_blockR ?_ | refine awp_skip ?_ | refine awp_ret ?_ | refine awp_exit ?_ | refine awp_region ?_ | refine awp_condM ?_ | refine And.intro ?_ ?_ | refine gE_splitN ?_ ?_ | refine gE_split ?_ ?_ | refine gQ_splitN ?_ ?_ | refine gQ_split ?_ ?_ | refine gM_splitN ?_ ?_ | refine gM_split ?_ ?_ | refine condM_splitDN ?_ ?_ | refine condM_splitD ?_ ?_ | refine condM_splitN ?_ ?_ | refine condM_split ?_ ?_ | refine condM_any ?_ ?_ | intro _) | (simp [*, hlt]))
      all_goals (refine finW_intro () ?_ ?_; (· trivial); (refine le_of ?_ ?_ <;> first | trivial | (simp [*]; done)))
  · repeat' (first | (with_reducible first | refine awp_seq ?_ | refine awp_blockS ?_ | refine awp_blockC ?_ | refine awp_blockR ?_ | refine awp_skip ?_ | refine awp_ret ?_ | refine awp_exit ?_ | refine awp_region ?_ | refine awp_condM ?_ | refine And.intro ?_ ?_ | refine gE_splitN ?_ ?_ | refine gE_split ?_ ?_ | refine gQ_splitN ?_ ?_ | refine gQ_split ?_ ?_ | refine gM_splitN ?_ ?_ | refine gM_split ?_ ?_ | refine condM_splitDN ?_ ?_ | refine condM_splitD ?_ ?_ | refine condM_splitN ?_ ?_ | refine condM_split ?_ ?_ | refine condM_any ?_ ?_ | intro _) | (simp [*]))
theorem searchF_spec (p : Nat → Bool) (N : Nat) (hp : ∀ a b, a ≤ b → b < N → p a = true → p b = true) : ∀ (m i j : Nat), j ≤ m + i → i ≤ j → j ≤ N → (∀ k, k < i → p k = false) → (∀ k, j ≤ k → k < N → p k = true) →
    searchF p m i j ≤ N ∧ (∀ k, k < searchF p m i j → p k = false) ∧ (∀ k, searchF p m i j ≤ k → k < N → p k = true)
  | 0, i, j, h1, h2, h3, h4, h5 => by
    have : i = j := by omega
    subst this
    exact ⟨h3, h4, h5⟩
  | m + 1, i, j, h1, h2, h3, h4, h5 => by
    unfold searchF
    by_cases hlt : i < j
    · rw [if_pos hlt]
      have hb1 : i ≤ (i + j) / 2 := by omega
      have hb2 : (i + j) / 2 < j := by omega
      generalize (i + j) / 2 = q at *
      cases hq : p q with
      | true =>
        rw [if_pos rfl]
        exact searchF_spec p N hp m i q (by omega) hb1 (by omega) h4 (fun k hk hkN => hp q k hk hkN hq)
      | false =>
        rw [if_neg (by decide)]
        refine searchF_spec p N hp m (q + 1) j (by omega) (by omega) h3 (fun k hk => ?_) h5
        cases hpk : p k with
        | false => rfl
        | true => rw [hp k q (by omega) (by omega) hpk] at hq; cases hq
    · rw [if_neg hlt]
      have : i = j := by omega
      subst this
      exact ⟨h3, h4, h5⟩
/-- behind how many entries an entry of a date is put -/
def postAt (d : Int) : List Entry → Nat
  | [] => 0
  | e :: r => if e.date ≤ d then postAt d r + 1 else 0
theorem postAt_le (d : Int) : ∀ l : List Entry, postAt d l ≤ l.length
  | [] => Nat.le_refl _
  | e :: r => by
    have := postAt_le d r
    unfold postAt
    split
    · simp; omega
    · omega
theorem postAt_lo (d : Int) : ∀ (l : List Entry) (k : Nat), k < postAt d l → (nth l k).date ≤ d
  | [], k, h => absurd h (Nat.not_lt_zero _)
  | e :: r, k, h => by
    unfold postAt at h
    split at h
    · rename_i he
      cases k with
      | zero => exact he
      | succ k => exact postAt_lo d r k (by omega)
    · exact absurd h (Nat.not_lt_zero _)
theorem postAt_hi (d : Int) : ∀ l : List Entry, postAt d l < l.length → d < (nth l (postAt d l)).date
  | [], h => absurd h (Nat.not_lt_zero _)
  | e :: r, h => by
    unfold postAt at h ⊢
    by_cases he : e.date ≤ d
    · rw [if_pos he] at h ⊢
      exact postAt_hi d r (by simpa using h)
    · rw [if_neg he] at h ⊢
      show d < e.date
      omega
theorem search_at (d : Int) (l : List Entry) (hs : ∀ j k, j ≤ k → k < l.length → (nth l j).date ≤ (nth l k).date) : searchF (fun k => decide (d < (nth l k).date)) l.length 0 l.length = postAt d l := by
  obtain ⟨h1, h2, h3⟩ := searchF_spec (fun k => decide (d < (nth l k).date)) l.length (fun a b hab hb ha => by
    have := of_decide_eq_true ha
    have := hs a b hab hb
    exact decide_eq_true (by omega)) l.length 0 l.length (by omega) (Nat.zero_le _) (Nat.le_refl _) (fun k hk => absurd hk (Nat.not_lt_zero _)) (fun k hk hk2 => by omega)
  generalize searchF (fun k => decide (d < (nth l k).date)) l.length 0 l.length = r at *
  have hp := postAt_le d l
  rcases Nat.lt_trichotomy r (postAt d l) with h | h | h
  · have a := postAt_lo d l r h
    have b := of_decide_eq_true (h3 r (Nat.le_refl _) (by omega))
    omega
  · exact h
  · have a := postAt_hi d l (by omega)
    have b := of_decide_eq_false (h2 (postAt d l) h)
    omega
theorem post1_c (b : Book) (x : Entry) (k : Nat) (hk : k < b.entries.length) : RealCall Tryz.prog 36 [.int .i64 k, .ip (cBook b) 0, .ip (cEntry x) 0] (.bool (decide (x.date < (nth b.entries k).date))) true := by
  unfold cBook cEntry
  refine realcall_intro Tryz.func36 (by kernel_rfl) rfl (Nat.le_of_ble_eq_true (by kernel_rfl)) ?_
  simp only [Tryz.results36, Tryz.ntmps36]
  repeat' (first | (with_reducible first | refine awp_seq ?_ | refine awp_blockS ?_ | refine awp_blockC ?_ | refine awp_blockR ?_ | refine awp_skip ?_ | refine awp_ret ?_ | refine awp_exit ?_ | refine awp_region ?_ | refine awp_regionD (id := 1) 10 mixed (by decide +kernel) ?_ | refine awp_condM ?_ | refine And.intro ?_ ?_ | apply gQ_merge | apply gE_merge | exact EqV_w | exact EqE_w | exact EqV_ptr | exact EqE_ptr | exact EqV_msl | exact EqE_msl | exact EqV_agg | exact EqE_agg | exact EqV_fn | exact EqE_fn | exact EqV_gd | exact EqE_gd | refine gM_splitN ?_ ?_ | refine gM_split ?_ ?_ |  refine condM_splitDN ?_ ?_ | refine condM_splitD ?_ ?_ | refine condM_splitN ?_ ?_ | refine condM_split ?_ ?_ | refine condM_any ?_ ?_ | intro _) | (simp [*, hk]))
  all_goals try omega
end Go.Proofs.YtlcimflkjfbaoaaGreat

