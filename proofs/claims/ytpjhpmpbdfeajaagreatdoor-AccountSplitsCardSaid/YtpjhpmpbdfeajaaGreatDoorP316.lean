/- Contracts of functions for this claim: lemmas alone. -/
import Derived.Test.YtpjhpmpbdfeajaaGreatDoorP314
import Derived.Test.YtpjhpmpbdfeajaaGreatDoorP310
import Derived.Test.YtpjhpmpbdfeajaaGreatDoorP18
import Derived.Test.YtpjhpmpbdfeajaaGreatDoorP21
set_option linter.unusedSimpArgs false
set_option linter.unusedVariables false
namespace Go.Proofs.YtpjhpmpbdfeajaaGreatDoor
open Go Go.Fi
set_option maxRecDepth 20000

/-! ### the document's check of shares -/
def zeroK (l : List Int) : Nat → Bool
  | 0 => true
  | k + 1 => zeroK l k && decide (nth l k = 0)
@[simp] theorem zeroK_zero (l : List Int) : zeroK l 0 = true := rfl
theorem zeroK_succ (l : List Int) (k : Nat) : zeroK l (k + 1) = (zeroK l k && decide (nth l k = 0)) := rfl
theorem zeroK_iff (l : List Int) : ∀ k, zeroK l k = true ↔ ∀ j, j < k → nth l j = 0
  | 0 => by simp
  | k + 1 => by
    rw [zeroK_succ, Bool.and_eq_true, zeroK_iff l k, decide_eq_true_eq]
    constructor
    · rintro ⟨h1, h2⟩ j hj
      rcases Nat.lt_or_eq_of_le (Nat.le_of_lt_succ hj) with h | h
      · exact h1 j h
      · rw [h]; exact h2
    · intro h
      exact ⟨fun j hj => h j (by omega), h k (by omega)⟩
theorem any_nth {p : Int → Bool} {l : List Int} : l.any p = true ↔ ∃ k, k < l.length ∧ p (nth l k) = true := by
  rw [List.any_eq_true]
  constructor
  · rintro ⟨x, hx, hp⟩
    obtain ⟨k, hk, rfl⟩ := mem_nth hx
    exact ⟨k, hk, hp⟩
  · rintro ⟨k, hk, hp⟩
    refine ⟨nth l k, ?_, hp⟩
    simp only [nth, List.getD_eq_getElem?_getD, List.getElem?_eq_getElem hk, Option.getD_some]
    exact List.getElem_mem hk
theorem shareE_out {l : List Int} {k : Nat} (hk : k < l.length) (h : winB (nth l k) 0 1000000 = false) : shareE l = 2 := by
  unfold shareE
  rw [any_nth.2 ⟨k, hk, by rw [h]; rfl⟩]
  rfl
theorem shareE_in {l : List Int} (h : ∀ k, k < l.length → winB (nth l k) 0 1000000 = true) : shareE l = if zeroK l l.length = true then 11 else 0 := by
  unfold shareE
  have h1 : (l.any fun x => !winB x 0 1000000) = false := by
    cases ha : l.any fun x => !winB x 0 1000000 with
    | false => rfl
    | true =>
      obtain ⟨k, hk, hp⟩ := any_nth.1 ha
      rw [h k hk] at hp; cases hp
  rw [h1]
  by_cases hz : zeroK l l.length = true
  · rw [if_pos hz]
    have h2 : (l.any fun x => decide (0 < x)) = false := by
      cases ha : l.any fun x => decide (0 < x) with
      | false => rfl
      | true =>
        obtain ⟨k, hk, hp⟩ := any_nth.1 ha
        have := (zeroK_iff l l.length).1 hz k hk
        have := of_decide_eq_true hp
        omega
    rw [h2]; rfl
  · rw [if_neg hz]
    have h2 : (l.any fun x => decide (0 < x)) = true := by
      cases ha : l.any fun x => decide (0 < x) with
      | true => rfl
      | false =>
        refine absurd ((zeroK_iff l l.length).2 fun j hj => ?_) hz
        have hw := winB_iff.1 (h j hj)
        rcases Int.lt_or_eq_of_le hw.1 with hp | hp
        · rw [any_nth.2 ⟨j, hj, decide_eq_true hp⟩] at ha; cases ha
        · omega
    rw [h2]; rfl
theorem rSharesErr_c (l : List Int) (hl : l.length < 100000) : RealCall Tryz.prog 42 [.sl l.length (ints l)] (.int .i64 (shareE l)) true := by
  have q2 := fun k hk h => shareE_out (l := l) (k := k) hk h
  have q0 := shareE_in (l := l)
  generalize shareE l = R at *
  have k2 := keep q2
  have k0 := keep q0
  clear q2 q0
  refine realcall_intro Tryz.func42 (by kernel_rfl) rfl (Nat.le_of_ble_eq_true (by kernel_rfl)) ?_
  simp only [Tryz.results42, Tryz.ntmps42]
  repeat' (first | (with_reducible first | refine awp_seq ?_ | refine awp_blockS ?_ | refine awp_blockC ?_ | refine awp_blockR ?_ | refine awp_skip ?_ | refine awp_ret ?_ | refine awp_exit ?_ | refine awp_region ?_ | refine awp_condM ?_ | refine And.intro ?_ ?_ | apply gQ_merge | apply gE_merge | exact EqV_w | exact EqE_w | exact EqV_ptr | exact EqE_ptr | exact EqV_msl | exact EqE_msl | exact EqV_agg | exact EqE_agg | exact EqV_fn | exact EqE_fn | exact EqV_gd | exact EqE_gd | refine gM_splitN ?_ ?_ | refine gM_split ?_ ?_ |  refine condM_splitDN ?_ ?_ | refine condM_splitD ?_ ?_ | refine condM_splitN ?_ ?_ | refine condM_split ?_ ?_ | refine condM_any ?_ ?_ | intro _) | (simp [*]))
  refine awp_for3 (fun (k : Nat) => k ≤ l.length ∧ (∀ j, j < k → winB (nth l j) 0 1000000 = true)) [0] (fun (k : Nat) => [(4, .w false false (.int .i64 k)), (3, .w false false (.bool (zeroK l k)))]) [] (fun (k : Nat) => []) (fun (k : Nat) => l.length - k) (fun (_u : Unit) => ∀ j, j < l.length → winB (nth l j) 0 1000000 = true) [] (fun (_u : Unit) => [(3, .w false false (.bool (zeroK l l.length)))]) [] (fun (_u : Unit) => []) (0) ⟨Nat.zero_le _, fun j hj => absurd hj (Nat.not_lt_zero _)⟩ (by simp) (by simp) (fun k hk => ?_) (fun _u hf => ?_)
  · obtain ⟨hk, hj⟩ := hk
    have kj := keep hj
    clear hj
    by_cases hlt : k < l.length
    · have c1 := rWithin_c (nth l k) 0 1000000
      have hs := zeroK_succ l k
      cases hw : winB (nth l k) 0 1000000 with
      | false =>
        rw [hw] at c1
        have hR := (show ∀ k, k < l.length → winB (nth l k) 0 1000000 = false → R = 2 from k2) k hlt hw
        subst hR
        clear k2 k0 hs hw
        repeat' (first | (with_reducible first | refine awp_seq ?_ | refine awp_blockS ?_ | refine awp_blockC ?_ | refine awp_blockR ?_ | refine awp_skip ?_ | refine awp_ret ?_ | refine awp_exit ?_ | refine awp_region ?_ | refine awp_condM ?_ | refine And.intro ?_ ?_ | apply gQ_merge | apply gE_merge | exact EqV_w | exact EqE_w | exact EqV_ptr | exact EqE_ptr | exact EqV_msl | exact EqE_msl | exact EqV_agg | exact EqE_agg | exact EqV_fn | exact EqE_fn | exact EqV_gd | exact EqE_gd | refine gM_splitN ?_ ?_ | refine gM_split ?_ ?_ |  refine condM_splitDN ?_ ?_ | refine condM_splitD ?_ ?_ | refine condM_splitN ?_ ?_ | refine condM_split ?_ ?_ | refine condM_any ?_ ?_ | refine cw (c1) ?_ | intro _) | (simp [*, hlt]) | (refine cw_eq (c1) ?_ ?_; (· (simp [*]; done))))
        all_goals try first | exact inI64 (by omega) (by omega) | omega
      | true =>
        rw [hw] at c1
        have kj2 : Keep (∀ j, j < k + 1 → winB (nth l j) 0 1000000 = true) := keep (fun j hj => by
          rcases Nat.lt_or_eq_of_le (Nat.le_of_lt_succ hj) with h | h
          · exact (show ∀ j, j < k → winB (nth l j) 0 1000000 = true from kj) j h
          · rw [h]; exact hw)
        clear k2 k0 hw kj
        cases hz : zeroK l k with
        | false =>
          have ks := keep (show zeroK l (k + 1) = false by rw [hs, hz]; rfl)
          clear hs hz
          repeat' (first | (with_reducible first | refine awp_seq ?_ | refine awp_blockS ?_ | refine awp_blockC ?_ | refine awp_blockR ?_ | refine awp_skip ?_ | refine awp_ret ?_ | refine awp_exit ?_ | refine awp_region ?_ | refine awp_condM ?_ | refine And.intro ?_ ?_ | apply gQ_merge | apply gE_merge | exact EqV_w | exact EqE_w | exact EqV_ptr | exact EqE_ptr | exact EqV_msl | exact EqE_msl | exact EqV_agg | exact EqE_agg | exact EqV_fn | exact EqE_fn | exact EqV_gd | exact EqE_gd | refine gM_splitN ?_ ?_ | refine gM_split ?_ ?_ |  refine condM_splitDN ?_ ?_ | refine condM_splitD ?_ ?_ | refine condM_splitN ?_ ?_ | refine condM_split ?_ ?_ | refine condM_any ?_ ?_ | refine cw (c1) ?_ | intro _) | (simp [*, hlt]) | (refine cw_eq (c1) ?_ ?_; (· (simp [*]; done))))
          all_goals try first | exact inI64 (by omega) (by omega) | omega
          all_goals (refine loopK_normal _ _ _ _ _ (k + 1) _ ?_ (by first | omega | (dsimp only; omega) | (simp; omega)) ?_; (· exact ⟨by omega, kj2⟩); (refine le_of ?_ ?_ <;> first | trivial | (simp [*, (show zeroK l (k + 1) = _ from ks)]; done)))
        | true =>
          have ks := keep (show zeroK l (k + 1) = decide (nth l k = 0) by rw [hs, hz]; rfl)
          clear hs hz
          repeat' (first | (with_reducible first | refine awp_seq ?_ | refine awp_blockS ?_ | refine awp_blockC ?_ | refine awp_blockR ?_ | refine awp_skip ?_ | refine awp_ret ?_ | refine awp_exit ?_ | refine awp_region ?_ | refine awp_condM ?_ | refine And.intro ?_ ?_ | apply gQ_merge | apply gE_merge | exact EqV_w | exact EqE_w | exact EqV_ptr | exact EqE_ptr | exact EqV_msl | exact EqE_msl | exact EqV_agg | exact EqE_agg | exact EqV_fn | exact EqE_fn | exact EqV_gd | exact EqE_gd | refine gM_splitN ?_ ?_ | refine gM_split ?_ ?_ |  refine condM_splitDN ?_ ?_ | refine condM_splitD ?_ ?_ | refine condM_splitN ?_ ?_ | refine condM_split ?_ ?_ | refine condM_any ?_ ?_ | refine cw (c1) ?_ | intro _) | (simp [*, hlt]) | (refine cw_eq (c1) ?_ ?_; (· (simp [*]; done))))
          all_goals try first | exact inI64 (by omega) (by omega) | omega
          all_goals (refine loopK_normal _ _ _ _ _ (k + 1) _ ?_ (by first | omega | (dsimp only; omega) | (simp; omega)) ?_; (· exact ⟨by omega, kj2⟩); (refine le_of ?_ ?_ <;> first | trivial | (simp [*, (show zeroK l (k + 1) = _ from ks)]; done)))
    · have hke : k = l.length := by omega
      subst hke
      clear k2 k0
      repeat' (first | (with_reducible first | refine awp_seq ?_ | refine awp_blockS ?_ | refine awp_blockC ?_ | refine awp_blockR ?_ | refine awp_skip ?_ | refine awp_ret ?_ | refine awp_exit ?_ | refine awp_region ?_ | refine awp_condM ?_ | refine And.intro ?_ ?_ | apply gQ_merge | apply gE_merge | exact EqV_w | exact EqE_w | exact EqV_ptr | exact EqE_ptr | exact EqV_msl | exact EqE_msl | exact EqV_agg | exact EqE_agg | exact EqV_fn | exact EqE_fn | exact EqV_gd | exact EqE_gd | refine gM_splitN ?_ ?_ | refine gM_split ?_ ?_ |  refine condM_splitDN ?_ ?_ | refine condM_splitD ?_ ?_ | refine condM_splitN ?_ ?_ | refine condM_split ?_ ?_ | refine condM_any ?_ ?_ | intro _) | (simp [*]))
      all_goals (refine finW_intro () ?_ ?_; (· exact kj); (refine le_of ?_ ?_ <;> first | trivial | (simp [*]; done)))
  · have hR := (show (∀ k, k < l.length → winB (nth l k) 0 1000000 = true) → R = if zeroK l l.length = true then 11 else 0 from k0) hf
    clear k2 k0 hf
    cases hz : zeroK l l.length with
    | true =>
      rw [hz, if_pos rfl] at hR
      subst hR
      clear hz
      repeat' (first | (with_reducible first | refine awp_seq ?_ | refine awp_blockS ?_ | refine awp_blockC ?_ | refine awp_blockR ?_ | refine awp_skip ?_ | refine awp_ret ?_ | refine awp_exit ?_ | refine awp_region ?_ | refine awp_condM ?_ | refine And.intro ?_ ?_ | apply gQ_merge | apply gE_merge | exact EqV_w | exact EqE_w | exact EqV_ptr | exact EqE_ptr | exact EqV_msl | exact EqE_msl | exact EqV_agg | exact EqE_agg | exact EqV_fn | exact EqE_fn | exact EqV_gd | exact EqE_gd | refine gM_splitN ?_ ?_ | refine gM_split ?_ ?_ |  refine condM_splitDN ?_ ?_ | refine condM_splitD ?_ ?_ | refine condM_splitN ?_ ?_ | refine condM_split ?_ ?_ | refine condM_any ?_ ?_ | intro _) | (simp [*]))
    | false =>
      rw [hz, if_neg (by decide)] at hR
      subst hR
      clear hz
      repeat' (first | (with_reducible first | refine awp_seq ?_ | refine awp_blockS ?_ | refine awp_blockC ?_ | refine awp_blockR ?_ | refine awp_skip ?_ | refine awp_ret ?_ | refine awp_exit ?_ | refine awp_region ?_ | refine awp_condM ?_ | refine And.intro ?_ ?_ | apply gQ_merge | apply gE_merge | exact EqV_w | exact EqE_w | exact EqV_ptr | exact EqE_ptr | exact EqV_msl | exact EqE_msl | exact EqV_agg | exact EqE_agg | exact EqV_fn | exact EqE_fn | exact EqV_gd | exact EqE_gd | refine gM_splitN ?_ ?_ | refine gM_split ?_ ?_ |  refine condM_splitDN ?_ ?_ | refine condM_splitD ?_ ?_ | refine condM_splitN ?_ ?_ | refine condM_split ?_ ?_ | refine condM_any ?_ ?_ | intro _) | (simp [*]))
end Go.Proofs.YtpjhpmpbdfeajaaGreatDoor
namespace Go.Proofs.YtpjhpmpbdfeajaaGreatDoor
open Go Go.Fi
set_option maxRecDepth 20000

/-! ### the document's split of an amount -/
theorem nth_snoc (l : List Int) (x : Int) (k : Nat) (h : l.length = k) : nth (l ++ [x]) k = x := by
  subst h; simp [nth]
theorem bestK_lt (l : List Int) (k : Nat) (h : 1 ≤ k) : bestK l k < k := by
  obtain ⟨j, rfl⟩ : ∃ j, k = j + 1 := ⟨k - 1, by omega⟩
  exact (bestK_spec l j).1
theorem bestK_yes (l : List Int) (k : Nat) (h : nth l (bestK l k) < nth l k) : bestK l (k + 1) = k := if_pos h
theorem bestK_no (l : List Int) (k : Nat) (h : ¬ nth l (bestK l k) < nth l k) : bestK l (k + 1) = bestK l k := if_neg h
set_option maxHeartbeats 16000000 in
theorem rSplit_mk (a : Nat) (ns : List Nat) (h : SplitIn a ns) (h12 : ns.length ≤ 12) (hE : shareE (toI ns) = 0) : MkCall Tryz.prog 9 [.int .i64 (a : Int), .sl ns.length (ints (toI ns))] [iA (splitS a ns)] (.tup [.msl 0 ns.length 1 0 ns.length, .w false false (.int .i64 0)]) := by
  have hpos := h.pos
  have hsh := h.share
  have ham := h.amt
  obtain ⟨hg1, hg2⟩ := left_bd a ns hpos
  have hS := sumN_bd ns hsh
  have hn0 : 0 < ns.length := by omega
  clear h
  have hti := toI_len ns
  have ha0 : ¬ (a : Int) < 0 := by omega
  have c1 := rSmall_c (a : Int) 1000000000000000 (by decide) (by decide)
  have hsm : smallB (a : Int) 1000000000000000 = true := winB_iff.2 ⟨by omega, by omega⟩
  rw [hsm] at c1
  clear hsm
  have c2 := rSharesErr_c (toI ns) (by rw [hti]; omega)
  rw [hE, hti] at c2
  clear hE
  have hn1 : ¬ ns.length = 0 := by omega
  have hn2 : ¬ 12 < ns.length := by omega
  have hn1I : ¬ (ns.length : Int) = 0 := by omega
  have hn2I : ¬ (12 : Int) < (ns.length : Int) := by omega
  refine mkcall_intro 0 [] Tryz.func9 (by kernel_rfl) rfl (Nat.le_of_ble_eq_true (by kernel_rfl)) (by simp) (by simp) ?_
  simp only [Tryz.results9, Tryz.ntmps9]
  repeat' (first | (with_reducible first | refine awp_seq ?_ | refine awp_blockS ?_ | refine awp_blockC ?_ | refine awp_blockR ?_ | refine awp_skip ?_ | refine awp_ret ?_ | refine awp_exit ?_ | refine awp_region ?_ | refine awp_regionD (id := 22) 8 mixed (by decide +kernel) ?_ | refine awp_regionD (id := 29) 17 mixed (by decide +kernel) ?_ | refine awp_regionD (id := 38) 9 mixed (by decide +kernel) ?_ | refine awp_condM ?_ | refine And.intro ?_ ?_ | apply gQ_merge | apply gE_merge | exact EqV_w | exact EqE_w | exact EqV_ptr | exact EqE_ptr | exact EqV_msl | exact EqE_msl | exact EqV_agg | exact EqE_agg | exact EqV_fn | exact EqE_fn | exact EqV_gd | exact EqE_gd | refine gM_splitN ?_ ?_ | refine gM_split ?_ ?_ |  refine condM_splitDN ?_ ?_ | refine condM_splitD ?_ ?_ | refine condM_splitN ?_ ?_ | refine condM_split ?_ ?_ | refine condM_any ?_ ?_ | refine cw (c1) ?_ | refine cw (c2) ?_ | intro _) | (simp [*, ha0, hn1, hn2, hn1I, hn2I]) | (refine cw_eq (c1) ?_ ?_; (· (simp [*]; done))) | (refine cw_eq (c2) ?_ ?_; (· (simp [*]; done))))
  clear c1 c2
  refine awp_for3 (fun (k : Nat) => k ≤ ns.length) [0, 1] (fun (k : Nat) => [(11, .w false false (.int .i64 k)), (10, .w false false (.int .i64 ((sumN (ns.take k) : Nat) : Int)))]) [] (fun (k : Nat) => []) (fun (k : Nat) => ns.length - k) (fun (_u : Unit) => True) [0, 1] (fun (_u : Unit) => [(10, .w false false (.int .i64 ((sumN ns : Nat) : Int)))]) [] (fun (_u : Unit) => []) (0) (Nat.zero_le _) (by simp) (by simp) (fun k hk => ?_) (fun _u hf => ?_)
  · by_cases hlt : k < ns.length
    · have ks := keep (sumN_succ ns k hlt)
      have hb := hsh k hlt
      have hb2 : sumN (ns.take k) ≤ 1000000 * (ns.take k).length := sumN_bd _ (fun j hj => by
        rw [take_len _ _ hk] at hj
        have := hsh j (by omega)
        have e : nth (ns.take k) j = nth ns j := by simp [nth, List.getD_eq_getElem?_getD, List.getElem?_take, hj]
        rw [e]; exact this)
      rw [take_len _ _ hk] at hb2
      have hg := toI_nth ns k hlt
      clear hsh
      repeat' (first | (with_reducible first | refine awp_seq ?_ | refine awp_blockS ?_ | refine awp_blockC ?_ | refine awp_blockR ?_ | refine awp_skip ?_ | refine awp_ret ?_ | refine awp_exit ?_ | refine awp_region ?_ | refine awp_regionD (id := 22) 8 mixed (by decide +kernel) ?_ | refine awp_regionD (id := 29) 17 mixed (by decide +kernel) ?_ | refine awp_regionD (id := 38) 9 mixed (by decide +kernel) ?_ | refine awp_condM ?_ | refine And.intro ?_ ?_ | apply gQ_merge | apply gE_merge | exact EqV_w | exact EqE_w | exact EqV_ptr | exact EqE_ptr | exact EqV_msl | exact EqE_msl | exact EqV_agg | exact EqE_agg | exact EqV_fn | exact EqE_fn | exact EqV_gd | exact EqE_gd | refine gM_splitN ?_ ?_ | refine gM_split ?_ ?_ |  refine condM_splitDN ?_ ?_ | refine condM_splitD ?_ ?_ | refine condM_splitN ?_ ?_ | refine condM_split ?_ ?_ | refine condM_any ?_ ?_ | intro _) | (simp [*, hlt, hg]))
      all_goals try first | exact inI64 (by omega) (by omega) | omega
      all_goals (refine loopK_normal _ _ _ _ _ (k + 1) _ ?_ (by first | omega | (dsimp only; omega) | (simp; omega)) ?_; (· omega); (refine le_of ?_ ?_ <;> first | trivial | (simp [*, (show sumN (ns.take (k + 1)) = _ from ks)]; done)))
    · have hke : k = ns.length := by omega
      subst hke
      clear hsh
      repeat' (first | (with_reducible first | refine awp_seq ?_ | refine awp_blockS ?_ | refine awp_blockC ?_ | refine awp_blockR ?_ | refine awp_skip ?_ | refine awp_ret ?_ | refine awp_exit ?_ | refine awp_region ?_ | refine awp_regionD (id := 22) 8 mixed (by decide +kernel) ?_ | refine awp_regionD (id := 29) 17 mixed (by decide +kernel) ?_ | refine awp_regionD (id := 38) 9 mixed (by decide +kernel) ?_ | refine awp_condM ?_ | refine And.intro ?_ ?_ | apply gQ_merge | apply gE_merge | exact EqV_w | exact EqE_w | exact EqV_ptr | exact EqE_ptr | exact EqV_msl | exact EqE_msl | exact EqV_agg | exact EqE_agg | exact EqV_fn | exact EqE_fn | exact EqV_gd | exact EqE_gd | refine gM_splitN ?_ ?_ | refine gM_split ?_ ?_ |  refine condM_splitDN ?_ ?_ | refine condM_splitD ?_ ?_ | refine condM_splitN ?_ ?_ | refine condM_split ?_ ?_ | refine condM_any ?_ ?_ | intro _) | (simp [*]))
      all_goals (refine finW_intro () ?_ ?_; (· trivial); (refine le_of ?_ ?_ <;> first | trivial | (simp [*, List.take_length]; done)))
  have hS0 : ¬ sumN ns = 0 := by omega
  have hS1 : ¬ (sumN ns : Int) = 0 := by omega
  have hS2 : ¬ (sumN ns : Int) ≤ 0 := by omega
  have e2 : (a : Int).tdiv (sumN ns : Int) = ((a / sumN ns : Nat) : Int) := rfl
  have e3 : (a : Int).tmod (sumN ns : Int) = ((a % sumN ns : Nat) : Int) := rfl
  have hW := Nat.div_le_self a (sumN ns)
  have hX := Nat.mod_lt a hpos
  have hWS : a / sumN ns * sumN ns ≤ a := Nat.div_mul_le_self a (sumN ns)
  have kfd := keep (fun s : Nat => whole_div a s (sumN ns) hpos)
  have kfm := keep (fun s : Nat => whole_mod a s (sumN ns))
  generalize hWd : a / sumN ns = W at *
  generalize hXd : a % sumN ns = X at *
  repeat' (first | (with_reducible first | refine awp_seq ?_ | refine awp_blockS ?_ | refine awp_blockC ?_ | refine awp_blockR ?_ | refine awp_skip ?_ | refine awp_ret ?_ | refine awp_exit ?_ | refine awp_region ?_ | refine awp_regionD (id := 22) 8 mixed (by decide +kernel) ?_ | refine awp_regionD (id := 29) 17 mixed (by decide +kernel) ?_ | refine awp_regionD (id := 38) 9 mixed (by decide +kernel) ?_ | refine awp_condM ?_ | refine And.intro ?_ ?_ | apply gQ_merge | apply gE_merge | exact EqV_w | exact EqE_w | exact EqV_ptr | exact EqE_ptr | exact EqV_msl | exact EqE_msl | exact EqV_agg | exact EqE_agg | exact EqV_fn | exact EqE_fn | exact EqV_gd | exact EqE_gd | refine gM_splitN ?_ ?_ | refine gM_split ?_ ?_ |  refine condM_splitDN ?_ ?_ | refine condM_splitD ?_ ?_ | refine condM_splitN ?_ ?_ | refine condM_split ?_ ?_ | refine condM_any ?_ ?_ | intro _) | (simp [*, hS0, hS1, hS2, e2, e3]))
  all_goals try first | exact inI64 (by omega) (by omega) | omega
  clear e2 e3
  refine awp_for4 2 (fun (k : Nat) => k ≤ ns.length) [0, 1, 10, 12, 13] (fun (k : Nat) => [(17, .w false false (.int .i64 k)), (14, .msl 0 k 1 0 k), (15, .msl 1 k 1 0 k), (16, .w false false (.int .i64 ((givenK a (sumN ns) (ns.take k) : Nat) : Int)))]) [] (fun (k : Nat) => [(0, iA (qsK a (sumN ns) (ns.take k))), (1, iA (rsK a (sumN ns) (ns.take k)))]) (fun (k : Nat) => ns.length - k) (fun (_u : Unit) => True) [0] (fun (_u : Unit) => [(14, .msl 0 ns.length 1 0 ns.length), (15, .msl 1 ns.length 1 0 ns.length), (16, .w false false (.int .i64 ((givenK a (sumN ns) ns : Nat) : Int)))]) [] (fun (_u : Unit) => [(0, iA (qsK a (sumN ns) ns)), (1, iA (rsK a (sumN ns) ns))]) (0) (Nat.zero_le _) (le_gen [] (by simp) (by simp)) (fun k hk => ?_) (fun _u hf => ?_)
  · by_cases hlt : k < ns.length
    · have hb := hsh k hlt
      have hle := nth_le_sum ns k hlt
      have hg := toI_nth ns k hlt
      have k1 := keep (qs_succ a (sumN ns) ns k hlt)
      have k2 := keep (rs_succ a (sumN ns) ns k hlt)
      have k4 := keep (given_succ a (sumN ns) ns k hlt)
      have hgm := given_mono a (sumN ns) ns (k + 1)
      rw [given_succ a (sumN ns) ns k hlt] at hgm
      have hq := div_bd (a := a) (nth_le_sum ns k hlt) hpos
      have htl := take_len ns k hk
      have hql : (qsK a (sumN ns) (ns.take k)).length = k := by rw [qs_len]; exact htl
      have fd := (show ∀ s : Nat, W * s + X * s / sumN ns = a * s / sumN ns from kfd) (nth ns k)
      have fm := (show ∀ s : Nat, X * s % sumN ns = a * s % sumN ns from kfm) (nth ns k)
      have hWs : W * nth ns k ≤ W * sumN ns := Nat.mul_le_mul_left W hle
      have hXs : X * nth ns k ≤ 12000000 * 1000000 := Nat.mul_le_mul (by omega) hb
      have ed : ((X : Int) * ((nth ns k : Nat) : Int)).tdiv (sumN ns : Int) = ((X * nth ns k / sumN ns : Nat) : Int) := by rw [← Int.natCast_mul]; rfl
      have em : ((X : Int) * ((nth ns k : Nat) : Int)).tmod (sumN ns : Int) = ((a * nth ns k % sumN ns : Nat) : Int) := by rw [← fm, ← Int.natCast_mul]; rfl
      have hr : a * nth ns k % sumN ns < sumN ns := Nat.mod_lt _ hpos
      have eq1 : (W : Int) * ((nth ns k : Nat) : Int) + ((X * nth ns k / sumN ns : Nat) : Int) = ((a * nth ns k / sumN ns : Nat) : Int) := by rw [← fd]; simp
      have b1 : 0 ≤ (W : Int) * ((nth ns k : Nat) : Int) ∧ (W : Int) * ((nth ns k : Nat) : Int) ≤ 1000000000000000 := by
        rw [← Int.natCast_mul]; omega
      have b2 : 0 ≤ (X : Int) * ((nth ns k : Nat) : Int) ∧ (X : Int) * ((nth ns k : Nat) : Int) ≤ 12000000000000 := by
        rw [← Int.natCast_mul]; omega
      obtain ⟨b11, b12⟩ := b1
      obtain ⟨b21, b22⟩ := b2
      have hX2 : X * nth ns k / sumN ns ≤ X * nth ns k := Nat.div_le_self _ _
      clear hsh kfd kfm fd fm hWS hWs hle
      generalize a * nth ns k / sumN ns = q at *
      generalize a * nth ns k % sumN ns = r at *
      generalize X * nth ns k / sumN ns = u at *
      generalize givenK a (sumN ns) (ns.take k) = gk at *
      generalize hqq : qsK a (sumN ns) (ns.take k) = qs at *
      generalize hrr : rsK a (sumN ns) (ns.take k) = rs at *
      have hqn := nth_snoc qs (q : Int) k hql
      have hrl : rs.length = k := by rw [← hrr, rs_len]; exact htl
      clear hqq hrr hXs hX2
      repeat' (first | (with_reducible first | refine awp_seq ?_ | refine awp_blockS ?_ | refine awp_blockC ?_ | refine awp_blockR ?_ | refine awp_skip ?_ | refine awp_ret ?_ | refine awp_exit ?_ | refine awp_region ?_ | refine awp_regionD (id := 22) 8 mixed (by decide +kernel) ?_ | refine awp_regionD (id := 29) 17 mixed (by decide +kernel) ?_ | refine awp_regionD (id := 38) 9 mixed (by decide +kernel) ?_ | refine awp_condM ?_ | refine And.intro ?_ ?_ | apply gQ_merge | apply gE_merge | exact EqV_w | exact EqE_w | exact EqV_ptr | exact EqE_ptr | exact EqV_msl | exact EqE_msl | exact EqV_agg | exact EqE_agg | exact EqV_fn | exact EqE_fn | exact EqV_gd | exact EqE_gd | refine gM_splitN ?_ ?_ | refine gM_split ?_ ?_ |  refine condM_splitDN ?_ ?_ | refine condM_splitD ?_ ?_ | refine condM_splitN ?_ ?_ | refine condM_split ?_ ?_ | refine condM_any ?_ ?_ | intro _) | (simp [*, hlt, hg, hS0, hS1, hS2, ed, em, eq1, hql, hrl, hqn]))
      all_goals try first | exact inI64 (by omega) (by omega) | omega
      all_goals (refine loopK_normal _ _ _ _ _ (k + 1) _ ?_ (by first | omega | (dsimp only; omega) | (simp; omega)) ?_; (· omega); (refine le_gen [] ?_ ?_ <;> first | trivial | (simp [*, (show qsK a (sumN ns) (ns.take (k + 1)) = _ from k1), (show rsK a (sumN ns) (ns.take (k + 1)) = _ from k2), (show givenK a (sumN ns) (ns.take (k + 1)) = _ from k4), hql, hrl]; done)))
    · have hke : k = ns.length := by omega
      subst hke
      clear hsh kfd kfm
      repeat' (first | (with_reducible first | refine awp_seq ?_ | refine awp_blockS ?_ | refine awp_blockC ?_ | refine awp_blockR ?_ | refine awp_skip ?_ | refine awp_ret ?_ | refine awp_exit ?_ | refine awp_region ?_ | refine awp_regionD (id := 22) 8 mixed (by decide +kernel) ?_ | refine awp_regionD (id := 29) 17 mixed (by decide +kernel) ?_ | refine awp_regionD (id := 38) 9 mixed (by decide +kernel) ?_ | refine awp_condM ?_ | refine And.intro ?_ ?_ | apply gQ_merge | apply gE_merge | exact EqV_w | exact EqE_w | exact EqV_ptr | exact EqE_ptr | exact EqV_msl | exact EqE_msl | exact EqV_agg | exact EqE_agg | exact EqV_fn | exact EqE_fn | exact EqV_gd | exact EqE_gd | refine gM_splitN ?_ ?_ | refine gM_split ?_ ?_ |  refine condM_splitDN ?_ ?_ | refine condM_splitD ?_ ?_ | refine condM_splitN ?_ ?_ | refine condM_split ?_ ?_ | refine condM_any ?_ ?_ | intro _) | (simp [*]))
      all_goals (refine finW_intro () ?_ ?_; (· trivial); (refine le_gen [] ?_ ?_ <;> first | trivial | (simp [*, List.take_length]; done)))
  clear hsh kfd kfm hWS hWd hXd
  obtain ⟨N, hN⟩ : ∃ N, ns.length = N + 1 := ⟨ns.length - 1, by omega⟩
  have hsp : splitS a ns = bump (qsK a (sumN ns) ns) ((orderN (rsK a (sumN ns) ns) N).take (a - givenK a (sumN ns) ns)) := by unfold splitS; rw [hN]; rfl
  rw [hsp]
  clear hsp hf
  have hrl : (rsK a (sumN ns) ns).length = N + 1 := by rw [rs_len]; exact hN
  have hql : (qsK a (sumN ns) ns).length = N + 1 := by rw [qs_len]; exact hN
  have hr0 : ∀ i, i < N + 1 → 0 ≤ nth (rsK a (sumN ns) ns) i := fun i hi => by rw [nth_rs a (sumN ns) ns i (by omega)]; exact Int.natCast_nonneg _
  have hol := orderN_len (rsK a (sumN ns) ns) N
  have holt := orderN_lt (rsK a (sumN ns) ns) N
  have hqb : ∀ j, j < (qsK a (sumN ns) ns).length → 0 ≤ nth (qsK a (sumN ns) ns) j ∧ nth (qsK a (sumN ns) ns) j ≤ 1000000000000000 := by
    intro j hj
    rw [qs_len] at hj
    have hq := div_bd (a := a) (nth_le_sum ns j hj) hpos
    rw [nth_qs a (sumN ns) ns j hj]
    generalize a * nth ns j / sumN ns = q at *
    omega
  generalize rsK a (sumN ns) ns = rs at *
  generalize qsK a (sumN ns) ns = qs at *
  generalize hgg : givenK a (sumN ns) ns = g at *
  clear hgg hS hpos hti hS0 hS1 hS2 hW hX
  generalize sumN ns = S at *
  simp only [hN]
  have kbo := keep (fun j hj => best_order rs N hrl hr0 j hj)
  clear hr0
  have kqb := keep hqb
  clear hqb
  have kolt := keep holt
  clear holt
  repeat' (first | (with_reducible first | refine awp_seq ?_ | refine awp_blockS ?_ | refine awp_blockC ?_ | refine awp_blockR ?_ | refine awp_skip ?_ | refine awp_ret ?_ | refine awp_exit ?_ | refine awp_region ?_ | refine awp_regionD (id := 22) 8 mixed (by decide +kernel) ?_ | refine awp_regionD (id := 29) 17 mixed (by decide +kernel) ?_ | refine awp_regionD (id := 38) 9 mixed (by decide +kernel) ?_ | refine awp_condM ?_ | refine And.intro ?_ ?_ | apply gQ_merge | apply gE_merge | exact EqV_w | exact EqE_w | exact EqV_ptr | exact EqE_ptr | exact EqV_msl | exact EqE_msl | exact EqV_agg | exact EqE_agg | exact EqV_fn | exact EqE_fn | exact EqV_gd | exact EqE_gd | refine gM_splitN ?_ ?_ | refine gM_split ?_ ?_ |  refine condM_splitDN ?_ ?_ | refine condM_splitD ?_ ?_ | refine condM_splitN ?_ ?_ | refine condM_split ?_ ?_ | refine condM_any ?_ ?_ | intro _) | (simp [*]))
  refine awp_for3 (fun (j : Nat) => j ≤ a - g) [0, 14, 15] (fun (j : Nat) => [(16, .w false false (.int .i64 ((g + j : Nat) : Int)))]) [] (fun (j : Nat) => [(0, iA (bump qs ((orderN rs N).take j))), (1, iA (mark rs ((orderN rs N).take j)))]) (fun (j : Nat) => a - g - j) (fun (_u : Unit) => True) [14] (fun (_u : Unit) => []) [] (fun (_u : Unit) => [(0, iA (bump qs ((orderN rs N).take (a - g))))]) (0) (Nat.zero_le _) (by simp) (by simp) (fun j hk => ?_) (fun _u hf => ?_)
  · by_cases hlt : j < a - g
    · have hI : (g : Int) + (j : Int) < (a : Int) := by omega
      have hbo := (show ∀ j, j < N + 1 → bestK (mark rs ((orderN rs N).take j)) (N + 1) = nth (orderN rs N) j from kbo) j (by omega)
      have hx := (show ∀ k, k < N + 1 → nth (orderN rs N) k < N + 1 from kolt) j (by omega)
      have kb := keep (bump_snoc (nth (orderN rs N) j) ((orderN rs N).take j) qs)
      have km := keep (mark_snoc (nth (orderN rs N) j) ((orderN rs N).take j) rs)
      have kt := keep (take_succ_nth (orderN rs N) j (by omega))
      have hbb := bump_bd 1000000000000000 N ((orderN rs N).take j) qs (fun i hi => by
        obtain ⟨j', hj', rfl⟩ := mem_nth hi
        rw [take_len _ _ (by omega)] at hj'
        rw [nth_take _ _ _ hj', hql]; exact (show ∀ k, k < N + 1 → nth (orderN rs N) k < N + 1 from kolt) j' (by omega)) (show ∀ j, j < qs.length → 0 ≤ nth qs j ∧ nth qs j ≤ 1000000000000000 from kqb) (nth (orderN rs N) j) (by rw [hql]; omega)
      rw [take_len _ _ (by omega)] at hbb
      have hbl : (bump qs ((orderN rs N).take j)).length = N + 1 := by rw [bump_len]; exact hql
      have hml : (mark rs ((orderN rs N).take j)).length = N + 1 := by rw [mark_len]; exact hrl
      generalize nth (orderN rs N) j = x at *
      clear kbo kqb kolt
      generalize bump qs ((orderN rs N).take j) = out at *
      generalize mark rs ((orderN rs N).take j) = M at *
      have kbo2 := keep hbo
      clear hbo
      have kbb := keep hbb
      clear hbb
      repeat' (first | (with_reducible first | refine awp_seq ?_ | refine awp_blockS ?_ | refine awp_blockC ?_ | refine awp_blockR ?_ | refine awp_skip ?_ | refine awp_ret ?_ | refine awp_exit ?_ | refine awp_region ?_ | refine awp_regionD (id := 22) 8 mixed (by decide +kernel) ?_ | refine awp_regionD (id := 29) 17 mixed (by decide +kernel) ?_ | refine awp_regionD (id := 38) 9 mixed (by decide +kernel) ?_ | refine awp_condM ?_ | refine And.intro ?_ ?_ | apply gQ_merge | apply gE_merge | exact EqV_w | exact EqE_w | exact EqV_ptr | exact EqE_ptr | exact EqV_msl | exact EqE_msl | exact EqV_agg | exact EqE_agg | exact EqV_fn | exact EqE_fn | exact EqV_gd | exact EqE_gd | refine gM_splitN ?_ ?_ | refine gM_split ?_ ?_ |  refine condM_splitDN ?_ ?_ | refine condM_splitD ?_ ?_ | refine condM_splitN ?_ ?_ | refine condM_split ?_ ?_ | refine condM_any ?_ ?_ | intro _) | (simp [*, hI]))
      all_goals try first | exact inI64 (by omega) (by omega) | omega
      refine awp_for3 (fun (i : Nat) => 1 ≤ i ∧ i ≤ N + 1) [0, 14, 15, 16] (fun (i : Nat) => [(19, .w false false (.int .i64 i)), (18, .w false false (.int .i64 ((bestK M i : Nat) : Int)))]) [0, 1] (fun (i : Nat) => []) (fun (i : Nat) => N + 1 - i) (fun (_u : Unit) => True) [0, 14, 15, 16] (fun (_u : Unit) => [(18, .w false false (.int .i64 ((bestK M (N + 1) : Nat) : Int)))]) [0, 1] (fun (_u : Unit) => []) (1) ⟨Nat.le_refl _, by omega⟩ (by simp) (by simp) (fun i hk => ?_) (fun _u hf => ?_)
      · obtain ⟨hi1, hi2⟩ := hk
        by_cases hi : i < N + 1
        · have hbi := bestK_lt M i hi1
          have hy := bestK_yes M i
          have hn := bestK_no M i
          generalize bestK M i = bi at *
          have hbi2 : bi < N + 1 := by omega
          by_cases hq : nth M bi < nth M i
          · have ks := keep (hy hq)
            clear hy hn
            repeat' (first | (with_reducible first | refine awp_seq ?_ | refine awp_blockS ?_ | refine awp_blockC ?_ | refine awp_blockR ?_ | refine awp_skip ?_ | refine awp_ret ?_ | refine awp_exit ?_ | refine awp_region ?_ | refine awp_regionD (id := 22) 8 mixed (by decide +kernel) ?_ | refine awp_regionD (id := 29) 17 mixed (by decide +kernel) ?_ | refine awp_regionD (id := 38) 9 mixed (by decide +kernel) ?_ | refine awp_condM ?_ | refine And.intro ?_ ?_ | apply gQ_merge | apply gE_merge | exact EqV_w | exact EqE_w | exact EqV_ptr | exact EqE_ptr | exact EqV_msl | exact EqE_msl | exact EqV_agg | exact EqE_agg | exact EqV_fn | exact EqE_fn | exact EqV_gd | exact EqE_gd | refine gM_splitN ?_ ?_ | refine gM_split ?_ ?_ |  refine condM_splitDN ?_ ?_ | refine condM_splitD ?_ ?_ | refine condM_splitN ?_ ?_ | refine condM_split ?_ ?_ | refine condM_any ?_ ?_ | intro _) | (simp [*, hi, hbi2, hml, hq]))
            all_goals try first | exact inI64 (by omega) (by omega) | omega
            all_goals (refine loopK_normal _ _ _ _ _ (i + 1) _ ?_ (by first | omega | (dsimp only; omega) | (simp; omega)) ?_; (· omega); (refine le_of ?_ ?_ <;> first | trivial | (simp [*, (show bestK M (i + 1) = _ from ks)]; done)))
          · have ks := keep (hn hq)
            clear hy hn
            repeat' (first | (with_reducible first | refine awp_seq ?_ | refine awp_blockS ?_ | refine awp_blockC ?_ | refine awp_blockR ?_ | refine awp_skip ?_ | refine awp_ret ?_ | refine awp_exit ?_ | refine awp_region ?_ | refine awp_regionD (id := 22) 8 mixed (by decide +kernel) ?_ | refine awp_regionD (id := 29) 17 mixed (by decide +kernel) ?_ | refine awp_regionD (id := 38) 9 mixed (by decide +kernel) ?_ | refine awp_condM ?_ | refine And.intro ?_ ?_ | apply gQ_merge | apply gE_merge | exact EqV_w | exact EqE_w | exact EqV_ptr | exact EqE_ptr | exact EqV_msl | exact EqE_msl | exact EqV_agg | exact EqE_agg | exact EqV_fn | exact EqE_fn | exact EqV_gd | exact EqE_gd | refine gM_splitN ?_ ?_ | refine gM_split ?_ ?_ |  refine condM_splitDN ?_ ?_ | refine condM_splitD ?_ ?_ | refine condM_splitN ?_ ?_ | refine condM_split ?_ ?_ | refine condM_any ?_ ?_ | intro _) | (simp [*, hi, hbi2, hml, hq]))
            all_goals try first | exact inI64 (by omega) (by omega) | omega
            all_goals (refine loopK_normal _ _ _ _ _ (i + 1) _ ?_ (by first | omega | (dsimp only; omega) | (simp; omega)) ?_; (· omega); (refine le_of ?_ ?_ <;> first | trivial | (simp [*, (show bestK M (i + 1) = _ from ks)]; done)))
        · have hke : i = N + 1 := by omega
          subst hke
          repeat' (first | (with_reducible first | refine awp_seq ?_ | refine awp_blockS ?_ | refine awp_blockC ?_ | refine awp_blockR ?_ | refine awp_skip ?_ | refine awp_ret ?_ | refine awp_exit ?_ | refine awp_region ?_ | refine awp_regionD (id := 22) 8 mixed (by decide +kernel) ?_ | refine awp_regionD (id := 29) 17 mixed (by decide +kernel) ?_ | refine awp_regionD (id := 38) 9 mixed (by decide +kernel) ?_ | refine awp_condM ?_ | refine And.intro ?_ ?_ | apply gQ_merge | apply gE_merge | exact EqV_w | exact EqE_w | exact EqV_ptr | exact EqE_ptr | exact EqV_msl | exact EqE_msl | exact EqV_agg | exact EqE_agg | exact EqV_fn | exact EqE_fn | exact EqV_gd | exact EqE_gd | refine gM_splitN ?_ ?_ | refine gM_split ?_ ?_ |  refine condM_splitDN ?_ ?_ | refine condM_splitD ?_ ?_ | refine condM_splitN ?_ ?_ | refine condM_split ?_ ?_ | refine condM_any ?_ ?_ | intro _) | (simp [*, hml]))
          all_goals (refine finW_intro () ?_ ?_; (· trivial); (refine le_of ?_ ?_ <;> first | trivial | (simp [*]; done)))
      · have hbo := (show bestK M (N + 1) = x from kbo2)
        rw [hbo]
        clear hbo kbo2
        obtain ⟨hb1, hb2⟩ := (show 0 ≤ nth out x ∧ nth out x ≤ 1000000000000000 + (j : Int) from kbb)
        clear kbb
        have hj3 : (g : Int) + ((j : Int) + 1) = (g : Int) + (j : Int) + 1 := by omega
        repeat' (first | (with_reducible first | refine awp_seq ?_ | refine awp_blockS ?_ | refine awp_blockC ?_ | refine awp_blockR ?_ | refine awp_skip ?_ | refine awp_ret ?_ | refine awp_exit ?_ | refine awp_region ?_ | refine awp_regionD (id := 22) 8 mixed (by decide +kernel) ?_ | refine awp_regionD (id := 29) 17 mixed (by decide +kernel) ?_ | refine awp_regionD (id := 38) 9 mixed (by decide +kernel) ?_ | refine awp_condM ?_ | refine And.intro ?_ ?_ | apply gQ_merge | apply gE_merge | exact EqV_w | exact EqE_w | exact EqV_ptr | exact EqE_ptr | exact EqV_msl | exact EqE_msl | exact EqV_agg | exact EqE_agg | exact EqV_fn | exact EqE_fn | exact EqV_gd | exact EqE_gd | refine gM_splitN ?_ ?_ | refine gM_split ?_ ?_ |  refine condM_splitDN ?_ ?_ | refine condM_splitD ?_ ?_ | refine condM_splitN ?_ ?_ | refine condM_split ?_ ?_ | refine condM_any ?_ ?_ | intro _) | (simp [*, hx, hbl, hml]))
        all_goals try first | exact inI64 (by omega) (by omega) | omega
        all_goals (refine loopK_normal _ _ _ _ _ (j + 1) _ ?_ (by first | omega | (dsimp only; omega) | (simp; omega)) ?_; (· omega); (refine le_of ?_ ?_ <;> first | trivial | (simp [*, hj3, (show (orderN rs N).take (j + 1) = _ from kt), (show bump qs ((orderN rs N).take j ++ [x]) = _ from kb), (show mark rs ((orderN rs N).take j ++ [x]) = _ from km)]; done)))
    · have hke : j = a - g := by omega
      have hI : ¬ (g : Int) + (j : Int) < (a : Int) := by omega
      subst hke
      clear kbo kqb kolt
      repeat' (first | (with_reducible first | refine awp_seq ?_ | refine awp_blockS ?_ | refine awp_blockC ?_ | refine awp_blockR ?_ | refine awp_skip ?_ | refine awp_ret ?_ | refine awp_exit ?_ | refine awp_region ?_ | refine awp_regionD (id := 22) 8 mixed (by decide +kernel) ?_ | refine awp_regionD (id := 29) 17 mixed (by decide +kernel) ?_ | refine awp_regionD (id := 38) 9 mixed (by decide +kernel) ?_ | refine awp_condM ?_ | refine And.intro ?_ ?_ | apply gQ_merge | apply gE_merge | exact EqV_w | exact EqE_w | exact EqV_ptr | exact EqE_ptr | exact EqV_msl | exact EqE_msl | exact EqV_agg | exact EqE_agg | exact EqV_fn | exact EqE_fn | exact EqV_gd | exact EqE_gd | refine gM_splitN ?_ ?_ | refine gM_split ?_ ?_ |  refine condM_splitDN ?_ ?_ | refine condM_splitD ?_ ?_ | refine condM_splitN ?_ ?_ | refine condM_split ?_ ?_ | refine condM_any ?_ ?_ | intro _) | (simp [*, hI]))
      all_goals (refine finW_intro () ?_ ?_; (· trivial); (refine le_of ?_ ?_ <;> first | trivial | (simp [*]; done)))
  · clear kbo kqb kolt
    repeat' (first | (with_reducible first | refine awp_seq ?_ | refine awp_blockS ?_ | refine awp_blockC ?_ | refine awp_blockR ?_ | refine awp_skip ?_ | refine awp_ret ?_ | refine awp_exit ?_ | refine awp_region ?_ | refine awp_regionD (id := 22) 8 mixed (by decide +kernel) ?_ | refine awp_regionD (id := 29) 17 mixed (by decide +kernel) ?_ | refine awp_regionD (id := 38) 9 mixed (by decide +kernel) ?_ | refine awp_condM ?_ | refine And.intro ?_ ?_ | apply gQ_merge | apply gE_merge | exact EqV_w | exact EqE_w | exact EqV_ptr | exact EqE_ptr | exact EqV_msl | exact EqE_msl | exact EqV_agg | exact EqE_agg | exact EqV_fn | exact EqE_fn | exact EqV_gd | exact EqE_gd | refine gM_splitN ?_ ?_ | refine gM_split ?_ ?_ |  refine condM_splitDN ?_ ?_ | refine condM_splitD ?_ ?_ | refine condM_splitN ?_ ?_ | refine condM_split ?_ ?_ | refine condM_any ?_ ?_ | intro _) | (simp [*]))
end Go.Proofs.YtpjhpmpbdfeajaaGreatDoor

