/- Contracts of functions for this claim: lemmas alone. -/
import Derived.Test.YtdgbfbgnbgfmjaaGreatDoorP57
import Derived.Test.YtdgbfbgnbgfmjaaGreatDoorP63
set_option linter.unusedSimpArgs false
set_option linter.unusedVariables false
namespace Go.Proofs.YtdgbfbgnbgfmjaaGreatDoor
open Go Go.Fi
set_option maxRecDepth 20000
attribute [-simp] cEntries_drop2

/-! ### a book in memory of its own, as a place -/
theorem frsL_own : ∀ l : List PV, AV.frs.frsL (l.map (.w true false)) = true
  | [] => rfl
  | x :: l => by
    have ih := frsL_own l
    show (AV.frs (.w true false x) && AV.frs.frsL (l.map (.w true false))) = true
    rw [ih]; rfl
@[simp] theorem entsA_frs (l : List Entry) (k : Nat) : AV.frs.frsL (entsA l k) = true := frsL_own _
@[simp] theorem entsA_sh (n : Nat) (l : List Entry) (k : Nat) : AV.sh.shL n (entsA l k) = entsA l k := shL_map n true false _
set_option maxHeartbeats 4000000 in
theorem copiedBook_mk (b : Book) (hb : BookIn b) : MkCall Tryz.prog 127 [.agg (cBook b)] [entsA b.entries b.entries.length] (.agg [.w true false (.sl b.accs.length (cAccs b.accs)), .msl 0 (b.entries.length * 3) 3 0 b.entries.length, .w false false (.int .i64 b.closed)]) := by
  have hal := hb.accs.len
  have hl := hb.len
  have he := hb.ent
  clear hb
  have c1 := cloneAccs_c b.accs (by omega)
  obtain ⟨ba, be, bc⟩ := b
  unfold cBook
  dsimp only at *
  refine mkcall_intro 3 [] Tryz.func127 (by kernel_rfl) rfl (Nat.le_of_ble_eq_true (by kernel_rfl)) (by simp) (by simp) ?_
  simp only [Tryz.results127, Tryz.ntmps127]
  repeat' (first | (with_reducible first | refine awp_seq ?_ | refine awp_blockS ?_ | refine awp_blockC ?_ | refine awp_blockR ?_ | refine awp_skip ?_ | refine awp_ret ?_ | refine awp_exit ?_ | refine awp_region ?_ | refine awp_regionD (id := 1) 9 mixed (by decide +kernel) ?_ | refine awp_regionD (id := 5) 5 mixed (by decide +kernel) ?_ | refine awp_condM ?_ | refine And.intro ?_ ?_ | apply gQ_merge | apply gE_merge | exact EqV_w | exact EqE_w | exact EqV_ptr | exact EqE_ptr | exact EqV_msl | exact EqE_msl | exact EqV_agg | exact EqE_agg | exact EqV_fn | exact EqE_fn | exact EqV_gd | exact EqE_gd | refine gM_splitN ?_ ?_ | refine gM_split ?_ ?_ |  refine condM_splitDN ?_ ?_ | refine condM_splitD ?_ ?_ | refine condM_splitN ?_ ?_ | refine condM_split ?_ ?_ | refine condM_any ?_ ?_ | refine cw (c1) ?_ | intro _) | (simp [*]) | (refine cw_eq (c1) ?_ ?_; (· (simp [*]; done))))
  refine awp_for4 4 (fun (k : Nat) => k ≤ be.length) [2, 3, 16, 17] (fun (k : Nat) => [(18, .w false false (.int .i64 k))]) [1] (fun (k : Nat) => [(2, [.w true false (.sl ba.length (cAccs ba)), .msl 3 (k * 3) 3 0 k, .w false false (.int .i64 bc)]), (3, entsA be k)]) (fun (k : Nat) => be.length - k) (fun (_u : Unit) => True) [2, 3] (fun (_u : Unit) => []) [1] (fun (_u : Unit) => [(2, [.w true false (.sl ba.length (cAccs ba)), .msl 3 (be.length * 3) 3 0 be.length, .w false false (.int .i64 bc)]), (3, entsA be be.length)]) (0) (Nat.zero_le _) (le_gen [] (by simp) (by simp)) (fun k hk => ?_) (fun _u hf => ?_)
  · by_cases hlt : k < be.length
    · have hr1 := (he k hlt).len
      clear he c1
      have cc := copied_c (nth be k) (by omega)
      unfold cEntry at cc
      have hlen := entsA_len be k hk
      have ks := keep (entsA_succ be k hlt)
      repeat' (first | (with_reducible first | refine awp_seq ?_ | refine awp_blockS ?_ | refine awp_blockC ?_ | refine awp_blockR ?_ | refine awp_skip ?_ | refine awp_ret ?_ | refine awp_exit ?_ | refine awp_region ?_ | refine awp_regionD (id := 1) 9 mixed (by decide +kernel) ?_ | refine awp_regionD (id := 5) 5 mixed (by decide +kernel) ?_ | refine awp_condM ?_ | refine And.intro ?_ ?_ | apply gQ_merge | apply gE_merge | exact EqV_w | exact EqE_w | exact EqV_ptr | exact EqE_ptr | exact EqV_msl | exact EqE_msl | exact EqV_agg | exact EqE_agg | exact EqV_fn | exact EqE_fn | exact EqV_gd | exact EqE_gd | refine gM_splitN ?_ ?_ | refine gM_split ?_ ?_ |  refine condM_splitDN ?_ ?_ | refine condM_splitD ?_ ?_ | refine condM_splitN ?_ ?_ | refine condM_split ?_ ?_ | refine condM_any ?_ ?_ | refine cw (cc) ?_ | intro _) | (simp [*, hlt, hlen, cEntry]) | (refine cw_eq (cc) ?_ ?_; (· (simp [*]; done))))
      all_goals first
        | exact inI64 (by omega) (by omega)
        | omega
        | (refine loopK_normal _ _ _ _ _ (k + 1) _ ?_ (by first | omega | (dsimp only; omega) | (simp; omega)) ?_; (· omega); (refine le_gen [] ?_ ?_ <;> first | trivial | (simp [*, entsA_succ be k hlt, Nat.add_mul]; done)))
        | skip
    · have hke : k = be.length := by omega
      subst hke
      clear he c1
      repeat' (first | (with_reducible first | refine awp_seq ?_ | refine awp_blockS ?_ | refine awp_blockC ?_ | refine awp_blockR ?_ | refine awp_skip ?_ | refine awp_ret ?_ | refine awp_exit ?_ | refine awp_region ?_ | refine awp_regionD (id := 1) 9 mixed (by decide +kernel) ?_ | refine awp_regionD (id := 5) 5 mixed (by decide +kernel) ?_ | refine awp_condM ?_ | refine And.intro ?_ ?_ | apply gQ_merge | apply gE_merge | exact EqV_w | exact EqE_w | exact EqV_ptr | exact EqE_ptr | exact EqV_msl | exact EqE_msl | exact EqV_agg | exact EqE_agg | exact EqV_fn | exact EqE_fn | exact EqV_gd | exact EqE_gd | refine gM_splitN ?_ ?_ | refine gM_split ?_ ?_ |  refine condM_splitDN ?_ ?_ | refine condM_splitD ?_ ?_ | refine condM_splitN ?_ ?_ | refine condM_split ?_ ?_ | refine condM_any ?_ ?_ | intro _) | (simp [*]))
      all_goals (refine finW_intro () ?_ ?_; (· trivial); (refine le_gen [] ?_ ?_ <;> first | trivial | (simp [*]; done)))
  · clear he c1
    have hlen := entsA_len be be.length (Nat.le_refl _)
    repeat' (first | (with_reducible first | refine awp_seq ?_ | refine awp_blockS ?_ | refine awp_blockC ?_ | refine awp_blockR ?_ | refine awp_skip ?_ | refine awp_ret ?_ | refine awp_exit ?_ | refine awp_region ?_ | refine awp_regionD (id := 1) 9 mixed (by decide +kernel) ?_ | refine awp_regionD (id := 5) 5 mixed (by decide +kernel) ?_ | refine awp_condM ?_ | refine And.intro ?_ ?_ | apply gQ_merge | apply gE_merge | exact EqV_w | exact EqE_w | exact EqV_ptr | exact EqE_ptr | exact EqV_msl | exact EqE_msl | exact EqV_agg | exact EqE_agg | exact EqV_fn | exact EqE_fn | exact EqV_gd | exact EqE_gd | refine gM_splitN ?_ ?_ | refine gM_split ?_ ?_ |  refine condM_splitDN ?_ ?_ | refine condM_splitD ?_ ?_ | refine condM_splitN ?_ ?_ | refine condM_split ?_ ?_ | refine condM_any ?_ ?_ | intro _) | (simp [*, hlen]))
end Go.Proofs.YtdgbfbgnbgfmjaaGreatDoor

