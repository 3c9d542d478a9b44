/- Contracts of functions for this claim: lemmas alone. -/
import Derived.Test.YtmedbghkldmlhaaP52
import Derived.Test.YtmedbghkldmlhaaP40
set_option linter.unusedSimpArgs false
set_option linter.unusedVariables false
namespace Go.Proofs.Ytmedbghkldmlhaa
open Go Go.Fi

/-- the least metres of the first roads from a place to another one -/
def minStep (r : Road) (a b best : Int) : Int := if r.frm = a ∧ r.to = b ∧ (best = -1 ∨ r.metres < best) then r.metres else best
def minK (l : List Road) (a b : Int) : Nat → Int
  | 0 => -1
  | k + 1 => minStep (nth l k) a b (minK l a b k)
def minS (n : Net) (a b : Int) : Int := minK n.roads a b n.roads.length
/-- the sum over the first hops, and whether one has no road -/
def sumK (n : Net) (pl : List Int) : Nat → Int
  | 0 => 0
  | k + 1 => sumK n pl k + minS n (nth pl k) (nth pl (k + 1))
def holeB (n : Net) (pl : List Int) : Nat → Bool
  | 0 => false
  | k + 1 => holeB n pl k || decide (minS n (nth pl k) (nth pl (k + 1)) = -1)
@[simp] theorem minK_zero (l : List Road) (a b : Int) : minK l a b 0 = -1 := by rw [minK]
@[simp] theorem sumK_zero (n : Net) (pl : List Int) : sumK n pl 0 = 0 := by rw [sumK]
theorem hole_mono {n : Net} {pl : List Int} {k : Nat} (h : holeB n pl k = true) : ∀ m, k ≤ m → holeB n pl m = true
  | 0, hm => by have : k = 0 := by omega
                subst this; exact h
  | m + 1, hm => by
    by_cases e : k = m + 1
    · subst e; exact h
    · simp only [holeB]; rw [hole_mono h m (by omega)]; rfl
theorem minK_bd {n : Net} (h : NetOk n) (a b : Int) : ∀ k, k ≤ n.roads.length → minK n.roads a b k = -1 ∨ (0 ≤ minK n.roads a b k ∧ minK n.roads a b k ≤ 100000)
  | 0, _ => .inl rfl
  | k + 1, hk => by
    have ih := minK_bd h a b k (by omega)
    have hm := (h.road k (by omega)).met
    simp only [minK, minStep]
    split <;> omega
theorem sumK_bd {n : Net} (h : NetOk n) (pl : List Int) : ∀ k, holeB n pl k = false → 0 ≤ sumK n pl k ∧ sumK n pl k ≤ 100000 * k
  | 0, _ => by simp [sumK]
  | k + 1, hh => by
    simp only [holeB, Bool.or_eq_false_iff, decide_eq_false_iff_not] at hh
    have ih := sumK_bd h pl k hh.1
    have hb := minK_bd h (nth pl k) (nth pl (k + 1)) n.roads.length (Nat.le_refl _)
    have e : minS n (nth pl k) (nth pl (k + 1)) = minK n.roads (nth pl k) (nth pl (k + 1)) n.roads.length := rfl
    simp only [sumK]
    rw [e] at hh ⊢
    omega
def placesB (n : Net) (pl : List Int) (k : Nat) : Bool := anyD (fun p => !winB p 0 (n.places.length - 1)) pl k
abbrev Quad := Int × Int × Bool × Int
/-- what an examination comes to -/
def exS (n : Net) (pl : List Int) (more : Int) : Quad :=
  if pl.length < 2 then (0, 0, false, 10) else if 200 < pl.length then (0, 0, false, 8) else if placesB n pl 0 = true then (0, 0, false, 6) else if winB more 0 1000 = false then (0, 0, false, 2)
  else if holeB n pl (pl.length - 1) = true then (0, 0, false, 23)
  else (sumK n pl (pl.length - 1), nth (growS fLen n (nth pl 0).toNat 0).l (nth pl (pl.length - 1)).toNat, decide (1000 * sumK n pl (pl.length - 1) ≤ (1000 + more) * nth (growS fLen n (nth pl 0).toNat 0).l (nth pl (pl.length - 1)).toNat), 0)
def quadP (q : Quad) : PV := .tup [.agg [.int .i64 q.1, .int .i64 q.2.1, .bool q.2.2.1], .int .i64 q.2.2.2]
abbrev aExam (pl : List Int) (more : Int) : PV := .agg [.sl pl.length (ints pl), .int .i64 more]
theorem places_ok {n : Net} {pl : List Int} (h : placesB n pl 0 = false) : ∀ k, k < pl.length → 0 ≤ nth pl k ∧ nth pl k < n.places.length := fun k hk => by
  have := anyD_no h k hk
  have := win_of (not_no this)
  omega
theorem min_keep {r : Road} {a b best : Int} (h : ¬ (r.frm = a ∧ r.to = b ∧ (best = -1 ∨ r.metres < best))) : minStep r a b best = best := if_neg h
theorem min_take {r : Road} {a b best : Int} (h1 : r.frm = a) (h2 : r.to = b) (h3 : best = -1 ∨ r.metres < best) : minStep r a b best = r.metres := if_pos ⟨h1, h2, h3⟩
set_option maxHeartbeats 8000000 in
set_option maxRecDepth 20000 in
theorem rExamined_c (n : Net) (h : NetOk n) (pl : List Int) (hl : pl.length < 1000) (more : Int) : RealCall Try.prog 35 [aNet n, aExam pl more] (quadP (exS n pl more)) true := by
  have hnp := h.np
  have hnr := h.nr
  generalize hR : exS n pl more = R
  unfold exS at hR
  unfold quadP aNet cNet
  by_cases g1 : pl.length < 2
  · rw [if_pos g1] at hR
    subst hR
    have g1i : (pl.length : Int) < 2 := by omega
    clear h
    refine realcall_intro Try.func35 (by kernel_rfl) rfl (Nat.le_of_ble_eq_true (by kernel_rfl)) ?_
    simp only [Try.results35, Try.ntmps35]
    repeat' (first | (with_reducible first | refine awp_seq ?_ | refine awp_blockS ?_ | refine awp_blockC ?_ | refine awp_blockR ?_ | refine awp_skip ?_ | refine awp_ret ?_ | refine awp_exit ?_ | refine awp_region ?_ | refine awp_regionD (id := 8) 8 mixed (by decide +kernel) ?_ | refine awp_regionD (id := 21) 29 mixed (by decide +kernel) ?_ | refine awp_regionD (id := 26) 17 mixed (by decide +kernel) ?_ | refine awp_condM ?_ | refine And.intro ?_ ?_ | refine gM_splitN ?_ ?_ | refine gM_split ?_ ?_ | refine condM_splitDN ?_ ?_ | refine condM_splitD ?_ ?_ | refine condM_splitN ?_ ?_ | refine condM_split ?_ ?_ | refine condM_any ?_ ?_ | intro _) | (simp [*, g1i, g1]))
    all_goals try omega
  rw [if_neg g1] at hR
  have g1i : ¬ (pl.length : Int) < 2 := by omega
  by_cases g2 : 200 < pl.length
  · rw [if_pos g2] at hR
    subst hR
    have g2i : (200 : Int) < (pl.length : Int) := by omega
    clear h
    refine realcall_intro Try.func35 (by kernel_rfl) rfl (Nat.le_of_ble_eq_true (by kernel_rfl)) ?_
    simp only [Try.results35, Try.ntmps35]
    repeat' (first | (with_reducible first | refine awp_seq ?_ | refine awp_blockS ?_ | refine awp_blockC ?_ | refine awp_blockR ?_ | refine awp_skip ?_ | refine awp_ret ?_ | refine awp_exit ?_ | refine awp_region ?_ | refine awp_regionD (id := 8) 8 mixed (by decide +kernel) ?_ | refine awp_regionD (id := 21) 29 mixed (by decide +kernel) ?_ | refine awp_regionD (id := 26) 17 mixed (by decide +kernel) ?_ | refine awp_condM ?_ | refine And.intro ?_ ?_ | refine gM_splitN ?_ ?_ | refine gM_split ?_ ?_ | refine condM_splitDN ?_ ?_ | refine condM_splitD ?_ ?_ | refine condM_splitN ?_ ?_ | refine condM_split ?_ ?_ | refine condM_any ?_ ?_ | intro _) | (simp [*, g1i, g2i]))
    all_goals try omega
  rw [if_neg g2] at hR
  have g2i : ¬ (200 : Int) < (pl.length : Int) := by omega
  have kR := keep hR
  have kh := keep h
  have kc := keep (fun i => rIsPlace_c n i (by omega))
  unfold aNet cNet at kc
  clear hR h
  refine realcall_intro Try.func35 (by kernel_rfl) rfl (Nat.le_of_ble_eq_true (by kernel_rfl)) ?_
  simp only [Try.results35, Try.ntmps35]
  repeat' (first | (with_reducible first | refine awp_seq ?_ | refine awp_blockS ?_ | refine awp_blockC ?_ | refine awp_blockR ?_ | refine awp_skip ?_ | refine awp_ret ?_ | refine awp_exit ?_ | refine awp_region ?_ | refine awp_regionD (id := 8) 8 mixed (by decide +kernel) ?_ | refine awp_regionD (id := 21) 29 mixed (by decide +kernel) ?_ | refine awp_regionD (id := 26) 17 mixed (by decide +kernel) ?_ | refine awp_condM ?_ | refine And.intro ?_ ?_ | refine gM_splitN ?_ ?_ | refine gM_split ?_ ?_ | refine condM_splitDN ?_ ?_ | refine condM_splitD ?_ ?_ | refine condM_splitN ?_ ?_ | refine condM_split ?_ ?_ | refine condM_any ?_ ?_ | intro _) | (simp [*, g1i, g2i]))
  all_goals try omega
  refine awp_for3 (fun (k : Nat) => k ≤ pl.length ∧ placesB n pl k = placesB n pl 0) [2, 3, 4] (fun (k : Nat) => [(6, .w false false (.int .i64 k))]) [0, 1, 2] (fun (k : Nat) => []) (fun (k : Nat) => pl.length - k) (fun (_u : Unit) => placesB n pl 0 = false) [2, 3, 4] (fun (_u : Unit) => []) [0, 1, 2] (fun (_u : Unit) => []) (0) ⟨Nat.zero_le _, rfl⟩ (by simp) (by simp) (fun k hk => ?_) (fun _u hf => ?_)
  · obtain ⟨hk, hj⟩ := hk
    by_cases hlt : k < pl.length
    · unfold placesB at hj
      rw [anyD_step _ _ _ hlt] at hj
      have c1 := kc (nth pl k)
      cases hw : winB (nth pl k) 0 (n.places.length - 1) with
      | true =>
        rw [hw] at c1 hj
        have hj : placesB n pl (k + 1) = placesB n pl 0 := hj
        have kj := keep hj
        clear hj
        repeat' (first | (with_reducible first | refine awp_seq ?_ | refine awp_blockS ?_ | refine awp_blockC ?_ | refine awp_blockR ?_ | refine awp_skip ?_ | refine awp_ret ?_ | refine awp_exit ?_ | refine awp_region ?_ | refine awp_regionD (id := 8) 8 mixed (by decide +kernel) ?_ | refine awp_regionD (id := 21) 29 mixed (by decide +kernel) ?_ | refine awp_regionD (id := 26) 17 mixed (by decide +kernel) ?_ | refine awp_condM ?_ | refine And.intro ?_ ?_ | refine gM_splitN ?_ ?_ | refine gM_split ?_ ?_ | refine condM_splitDN ?_ ?_ | refine condM_splitD ?_ ?_ | refine condM_splitN ?_ ?_ | refine condM_split ?_ ?_ | refine condM_any ?_ ?_ | refine cw (c1) ?_ | intro _) | (simp [*, hlt]))
        all_goals first
          | exact inI64 (by omega) (by omega)
          | omega
          | (refine loopK_normal _ _ _ _ _ (k + 1) _ ?_ (by first | omega | (dsimp only; omega) | (simp; omega)) ?_; (· exact ⟨by omega, kj⟩); (refine le_of ?_ ?_ <;> first | trivial | (simp [*]; done)))
          | skip
      | false =>
        rw [hw] at c1 hj
        have hj : true = placesB n pl 0 := hj
        rw [keep_def, if_pos hj.symm] at kR
        subst kR
        clear hj
        repeat' (first | (with_reducible first | refine awp_seq ?_ | refine awp_blockS ?_ | refine awp_blockC ?_ | refine awp_blockR ?_ | refine awp_skip ?_ | refine awp_ret ?_ | refine awp_exit ?_ | refine awp_region ?_ | refine awp_regionD (id := 8) 8 mixed (by decide +kernel) ?_ | refine awp_regionD (id := 21) 29 mixed (by decide +kernel) ?_ | refine awp_regionD (id := 26) 17 mixed (by decide +kernel) ?_ | refine awp_condM ?_ | refine And.intro ?_ ?_ | refine gM_splitN ?_ ?_ | refine gM_split ?_ ?_ | refine condM_splitDN ?_ ?_ | refine condM_splitD ?_ ?_ | refine condM_splitN ?_ ?_ | refine condM_split ?_ ?_ | refine condM_any ?_ ?_ | refine cw (c1) ?_ | intro _) | (simp [*, hlt]))
        all_goals try omega
    · have hke : k = pl.length := by omega
      subst hke
      have kj := keep (show placesB n pl 0 = false by rw [← hj]; exact anyD_end _ _)
      clear hj
      repeat' (first | (with_reducible first | refine awp_seq ?_ | refine awp_blockS ?_ | refine awp_blockC ?_ | refine awp_blockR ?_ | refine awp_skip ?_ | refine awp_ret ?_ | refine awp_exit ?_ | refine awp_region ?_ | refine awp_regionD (id := 8) 8 mixed (by decide +kernel) ?_ | refine awp_regionD (id := 21) 29 mixed (by decide +kernel) ?_ | refine awp_regionD (id := 26) 17 mixed (by decide +kernel) ?_ | refine awp_condM ?_ | refine And.intro ?_ ?_ | refine gM_splitN ?_ ?_ | refine gM_split ?_ ?_ | refine condM_splitDN ?_ ?_ | refine condM_splitD ?_ ?_ | refine condM_splitN ?_ ?_ | refine condM_split ?_ ?_ | refine condM_any ?_ ?_ | intro _) | (simp [*]))
      all_goals (refine finW_intro () ?_ ?_; (· exact kj); (refine le_of ?_ ?_ <;> first | trivial | (simp [*]; done)))
  · rw [keep_def, if_neg (by rw [hf]; decide)] at kR
    have hpl := keep (places_ok hf)
    clear hf
    have cw1 := rWithin_c more 0 1000
    cases hm : winB more 0 1000 with
    | false =>
      rw [hm] at cw1
      rw [if_pos hm] at kR
      subst kR
      repeat' (first | (with_reducible first | refine awp_seq ?_ | refine awp_blockS ?_ | refine awp_blockC ?_ | refine awp_blockR ?_ | refine awp_skip ?_ | refine awp_ret ?_ | refine awp_exit ?_ | refine awp_region ?_ | refine awp_regionD (id := 8) 8 mixed (by decide +kernel) ?_ | refine awp_regionD (id := 21) 29 mixed (by decide +kernel) ?_ | refine awp_regionD (id := 26) 17 mixed (by decide +kernel) ?_ | refine awp_condM ?_ | refine And.intro ?_ ?_ | refine gM_splitN ?_ ?_ | refine gM_split ?_ ?_ | refine condM_splitDN ?_ ?_ | refine condM_splitD ?_ ?_ | refine condM_splitN ?_ ?_ | refine condM_split ?_ ?_ | refine condM_any ?_ ?_ | refine cw (cw1) ?_ | intro _) | (simp [*]))
      all_goals try omega
    | true =>
      rw [hm] at cw1
      rw [hm, if_neg (by decide)] at kR
      have kR2 := keep kR
      clear kR
      have wm := win_of hm
      clear hm
      repeat' (first | (with_reducible first | refine awp_seq ?_ | refine awp_blockS ?_ | refine awp_blockC ?_ | refine awp_blockR ?_ | refine awp_skip ?_ | refine awp_ret ?_ | refine awp_exit ?_ | refine awp_region ?_ | refine awp_regionD (id := 8) 8 mixed (by decide +kernel) ?_ | refine awp_regionD (id := 21) 29 mixed (by decide +kernel) ?_ | refine awp_regionD (id := 26) 17 mixed (by decide +kernel) ?_ | refine awp_condM ?_ | refine And.intro ?_ ?_ | refine gM_splitN ?_ ?_ | refine gM_split ?_ ?_ | refine condM_splitDN ?_ ?_ | refine condM_splitD ?_ ?_ | refine condM_splitN ?_ ?_ | refine condM_split ?_ ?_ | refine condM_any ?_ ?_ | refine cw (cw1) ?_ | intro _) | (simp [*]))
      all_goals try omega
      clear cw1
      refine awp_for3 (fun (k : Nat) => k + 1 ≤ pl.length ∧ holeB n pl k = false) [2, 3, 4, 7] (fun (k : Nat) => [(8, .w false false (.int .i64 ((k : Int) + 1)))]) [0, 1, 2] (fun (k : Nat) => [(3, [.w false false (.int .i64 (sumK n pl k)), .w false false (.int .i64 0), .w false false (.bool false)])]) (fun (k : Nat) => pl.length - k) (fun (_u : Unit) => holeB n pl (pl.length - 1) = false) [2, 3, 4, 7] (fun (_u : Unit) => []) [0, 1, 2] (fun (_u : Unit) => [(3, [.w false false (.int .i64 (sumK n pl (pl.length - 1))), .w false false (.int .i64 0), .w false false (.bool false)])]) (0) ⟨by omega, rfl⟩ (by simp) (by simp) (fun k hk => ?_) (fun _u hf => ?_)
      · obtain ⟨hk, hj⟩ := hk
        by_cases hlt : k + 1 < pl.length
        · have hlti : (k : Int) + 1 < (pl.length : Int) := by omega
          have p1 : k < pl.length := by omega
          have q1 : ((k : Int) + 1).toNat = k + 1 := by omega
          have hsb := sumK_bd kh pl k hj
          have hkl : k < 200 := by omega
          have kj := keep hj
          clear hj
          repeat' (first | (with_reducible first | refine awp_seq ?_ | refine awp_blockS ?_ | refine awp_blockC ?_ | refine awp_blockR ?_ | refine awp_skip ?_ | refine awp_ret ?_ | refine awp_exit ?_ | refine awp_region ?_ | refine awp_regionD (id := 8) 8 mixed (by decide +kernel) ?_ | refine awp_regionD (id := 21) 29 mixed (by decide +kernel) ?_ | refine awp_regionD (id := 26) 17 mixed (by decide +kernel) ?_ | refine awp_condM ?_ | refine And.intro ?_ ?_ | refine gM_splitN ?_ ?_ | refine gM_split ?_ ?_ | refine condM_splitDN ?_ ?_ | refine condM_splitD ?_ ?_ | refine condM_splitN ?_ ?_ | refine condM_split ?_ ?_ | refine condM_any ?_ ?_ | intro _) | (simp [*, hlti]))
          refine awp_for3 (fun (j : Nat) => j ≤ n.roads.length) [2, 3, 4, 7, 8] (fun (j : Nat) => [(9, .w false false (.int .i64 (minK n.roads (nth pl k) (nth pl (k + 1)) j))), (10, .w false false (.int .i64 j))]) [0, 1, 2, 3] (fun (j : Nat) => []) (fun (j : Nat) => n.roads.length - j) (fun (_u : Unit) => True) [2, 3, 4, 7, 8] (fun (_u : Unit) => [(9, .w false false (.int .i64 (minS n (nth pl k) (nth pl (k + 1)))))]) [0, 1, 2, 3] (fun (_u : Unit) => []) (0) (Nat.zero_le _) (by simp) (by simp) (fun j hk => ?_) (fun _u hf => ?_)
          · by_cases hjt : j < n.roads.length
            · have hmet := (kh.road j hjt).met
              have hmb := minK_bd kh (nth pl k) (nth pl (k + 1)) j (by omega)
              have em : minK n.roads (nth pl k) (nth pl (k + 1)) (j + 1) = minStep (nth n.roads j) (nth pl k) (nth pl (k + 1)) (minK n.roads (nth pl k) (nth pl (k + 1)) j) := rfl
              generalize hr : nth n.roads j = r at *
              generalize hb : minK n.roads (nth pl k) (nth pl (k + 1)) j = best at *
              by_cases c1 : r.frm = nth pl k
              · by_cases c2 : r.to = nth pl (k + 1)
                · by_cases c3 : best < 0
                  · rw [min_take c1 c2 (.inl (by omega))] at em
                    have kem := keep em
                    clear em
                    repeat' (first | (with_reducible first | refine awp_seq ?_ | refine awp_blockS ?_ | refine awp_blockC ?_ | refine awp_blockR ?_ | refine awp_skip ?_ | refine awp_ret ?_ | refine awp_exit ?_ | refine awp_region ?_ | refine awp_regionD (id := 8) 8 mixed (by decide +kernel) ?_ | refine awp_regionD (id := 21) 29 mixed (by decide +kernel) ?_ | refine awp_regionD (id := 26) 17 mixed (by decide +kernel) ?_ | refine awp_condM ?_ | refine And.intro ?_ ?_ | refine gM_splitN ?_ ?_ | refine gM_split ?_ ?_ | refine condM_splitDN ?_ ?_ | refine condM_splitD ?_ ?_ | refine condM_splitN ?_ ?_ | refine condM_split ?_ ?_ | refine condM_any ?_ ?_ | intro _) | (simp [*, hjt, hr, cRoad, c1, c2, c3, hlti, q1, p1, hlt]))
                    all_goals first
                      | exact inI64 (by omega) (by omega)
                      | omega
                      | (rw [keep_def] at kem; (refine loopK_normal _ _ _ _ _ (j + 1) _ ?_ (by first | omega | (dsimp only; omega) | (simp; omega)) ?_; (· omega); (refine le_of ?_ ?_ <;> first | trivial | (simp [*, kem]; done))))
                      | skip
                  · by_cases c4 : r.metres < best
                    · rw [min_take c1 c2 (.inr c4)] at em
                      have kem := keep em
                      clear em
                      repeat' (first | (with_reducible first | refine awp_seq ?_ | refine awp_blockS ?_ | refine awp_blockC ?_ | refine awp_blockR ?_ | refine awp_skip ?_ | refine awp_ret ?_ | refine awp_exit ?_ | refine awp_region ?_ | refine awp_regionD (id := 8) 8 mixed (by decide +kernel) ?_ | refine awp_regionD (id := 21) 29 mixed (by decide +kernel) ?_ | refine awp_regionD (id := 26) 17 mixed (by decide +kernel) ?_ | refine awp_condM ?_ | refine And.intro ?_ ?_ | refine gM_splitN ?_ ?_ | refine gM_split ?_ ?_ | refine condM_splitDN ?_ ?_ | refine condM_splitD ?_ ?_ | refine condM_splitN ?_ ?_ | refine condM_split ?_ ?_ | refine condM_any ?_ ?_ | intro _) | (simp [*, hjt, hr, cRoad, c1, c2, c3, c4, hlti, q1, p1, hlt]))
                      all_goals first
                        | exact inI64 (by omega) (by omega)
                        | omega
                        | (rw [keep_def] at kem; (refine loopK_normal _ _ _ _ _ (j + 1) _ ?_ (by first | omega | (dsimp only; omega) | (simp; omega)) ?_; (· omega); (refine le_of ?_ ?_ <;> first | trivial | (simp [*, kem]; done))))
                        | skip
                    · rw [min_keep (fun h => by rcases h.2.2 with h | h <;> omega)] at em
                      have kem := keep em
                      clear em
                      repeat' (first | (with_reducible first | refine awp_seq ?_ | refine awp_blockS ?_ | refine awp_blockC ?_ | refine awp_blockR ?_ | refine awp_skip ?_ | refine awp_ret ?_ | refine awp_exit ?_ | refine awp_region ?_ | refine awp_regionD (id := 8) 8 mixed (by decide +kernel) ?_ | refine awp_regionD (id := 21) 29 mixed (by decide +kernel) ?_ | refine awp_regionD (id := 26) 17 mixed (by decide +kernel) ?_ | refine awp_condM ?_ | refine And.intro ?_ ?_ | refine gM_splitN ?_ ?_ | refine gM_split ?_ ?_ | refine condM_splitDN ?_ ?_ | refine condM_splitD ?_ ?_ | refine condM_splitN ?_ ?_ | refine condM_split ?_ ?_ | refine condM_any ?_ ?_ | intro _) | (simp [*, hjt, hr, cRoad, c1, c2, c3, c4, hlti, q1, p1, hlt]))
                      all_goals first
                        | exact inI64 (by omega) (by omega)
                        | omega
                        | (rw [keep_def] at kem; (refine loopK_normal _ _ _ _ _ (j + 1) _ ?_ (by first | omega | (dsimp only; omega) | (simp; omega)) ?_; (· omega); (refine le_of ?_ ?_ <;> first | trivial | (simp [*, kem]; done))))
                        | skip
                · rw [min_keep (fun h => c2 h.2.1)] at em
                  have kem := keep em
                  clear em
                  repeat' (first | (with_reducible first | refine awp_seq ?_ | refine awp_blockS ?_ | refine awp_blockC ?_ | refine awp_blockR ?_ | refine awp_skip ?_ | refine awp_ret ?_ | refine awp_exit ?_ | refine awp_region ?_ | refine awp_regionD (id := 8) 8 mixed (by decide +kernel) ?_ | refine awp_regionD (id := 21) 29 mixed (by decide +kernel) ?_ | refine awp_regionD (id := 26) 17 mixed (by decide +kernel) ?_ | refine awp_condM ?_ | refine And.intro ?_ ?_ | refine gM_splitN ?_ ?_ | refine gM_split ?_ ?_ | refine condM_splitDN ?_ ?_ | refine condM_splitD ?_ ?_ | refine condM_splitN ?_ ?_ | refine condM_split ?_ ?_ | refine condM_any ?_ ?_ | intro _) | (simp [*, hjt, hr, cRoad, c1, c2, hlti, q1, p1, hlt]))
                  all_goals first
                    | exact inI64 (by omega) (by omega)
                    | omega
                    | (rw [keep_def] at kem; (refine loopK_normal _ _ _ _ _ (j + 1) _ ?_ (by first | omega | (dsimp only; omega) | (simp; omega)) ?_; (· omega); (refine le_of ?_ ?_ <;> first | trivial | (simp [*, kem]; done))))
                    | skip
              · rw [min_keep (fun h => c1 h.1)] at em
                have kem := keep em
                clear em
                repeat' (first | (with_reducible first | refine awp_seq ?_ | refine awp_blockS ?_ | refine awp_blockC ?_ | refine awp_blockR ?_ | refine awp_skip ?_ | refine awp_ret ?_ | refine awp_exit ?_ | refine awp_region ?_ | refine awp_regionD (id := 8) 8 mixed (by decide +kernel) ?_ | refine awp_regionD (id := 21) 29 mixed (by decide +kernel) ?_ | refine awp_regionD (id := 26) 17 mixed (by decide +kernel) ?_ | refine awp_condM ?_ | refine And.intro ?_ ?_ | refine gM_splitN ?_ ?_ | refine gM_split ?_ ?_ | refine condM_splitDN ?_ ?_ | refine condM_splitD ?_ ?_ | refine condM_splitN ?_ ?_ | refine condM_split ?_ ?_ | refine condM_any ?_ ?_ | intro _) | (simp [*, hjt, hr, cRoad, c1, hlti, q1, p1, hlt]))
                all_goals first
                  | exact inI64 (by omega) (by omega)
                  | omega
                  | (rw [keep_def] at kem; (refine loopK_normal _ _ _ _ _ (j + 1) _ ?_ (by first | omega | (dsimp only; omega) | (simp; omega)) ?_; (· omega); (refine le_of ?_ ?_ <;> first | trivial | (simp [*, kem]; done))))
                  | skip
            · have hje : j = n.roads.length := by omega
              subst hje
              have em : minK n.roads (nth pl k) (nth pl (k + 1)) n.roads.length = minS n (nth pl k) (nth pl (k + 1)) := rfl
              repeat' (first | (with_reducible first | refine awp_seq ?_ | refine awp_blockS ?_ | refine awp_blockC ?_ | refine awp_blockR ?_ | refine awp_skip ?_ | refine awp_ret ?_ | refine awp_exit ?_ | refine awp_region ?_ | refine awp_regionD (id := 8) 8 mixed (by decide +kernel) ?_ | refine awp_regionD (id := 21) 29 mixed (by decide +kernel) ?_ | refine awp_regionD (id := 26) 17 mixed (by decide +kernel) ?_ | refine awp_condM ?_ | refine And.intro ?_ ?_ | refine gM_splitN ?_ ?_ | refine gM_split ?_ ?_ | refine condM_splitDN ?_ ?_ | refine condM_splitD ?_ ?_ | refine condM_splitN ?_ ?_ | refine condM_split ?_ ?_ | refine condM_any ?_ ?_ | intro _) | (simp [*]))
              all_goals (refine finW_intro () ?_ ?_; (· trivial); (refine le_of ?_ ?_ <;> first | trivial | (simp [*, em]; done)))
          · have hmb : minS n (nth pl k) (nth pl (k + 1)) = -1 ∨ (0 ≤ minS n (nth pl k) (nth pl (k + 1)) ∧ minS n (nth pl k) (nth pl (k + 1)) ≤ 100000) := minK_bd kh _ _ _ (Nat.le_refl _)
            have es : sumK n pl (k + 1) = sumK n pl k + minS n (nth pl k) (nth pl (k + 1)) := rfl
            have eh : holeB n pl (k + 1) = (holeB n pl k || decide (minS n (nth pl k) (nth pl (k + 1)) = -1)) := rfl
            generalize hms : minS n (nth pl k) (nth pl (k + 1)) = ms at *
            rw [keep_def] at kj
            rw [kj, Bool.false_or] at eh
            by_cases hx : ms < 0
            · rw [decide_eq_true (by omega)] at eh
              have hh := hole_mono eh (pl.length - 1) (by omega)
              rw [keep_def, if_pos hh] at kR2
              subst kR2
              clear eh es hh kj
              repeat' (first | (with_reducible first | refine awp_seq ?_ | refine awp_blockS ?_ | refine awp_blockC ?_ | refine awp_blockR ?_ | refine awp_skip ?_ | refine awp_ret ?_ | refine awp_exit ?_ | refine awp_region ?_ | refine awp_regionD (id := 8) 8 mixed (by decide +kernel) ?_ | refine awp_regionD (id := 21) 29 mixed (by decide +kernel) ?_ | refine awp_regionD (id := 26) 17 mixed (by decide +kernel) ?_ | refine awp_condM ?_ | refine And.intro ?_ ?_ | refine gM_splitN ?_ ?_ | refine gM_split ?_ ?_ | refine condM_splitDN ?_ ?_ | refine condM_splitD ?_ ?_ | refine condM_splitN ?_ ?_ | refine condM_split ?_ ?_ | refine condM_any ?_ ?_ | intro _) | (simp [*, hx]))
              all_goals try omega
            · rw [decide_eq_false (by omega)] at eh
              have kk := keep (And.intro eh es)
              clear eh es kj
              repeat' (first | (with_reducible first | refine awp_seq ?_ | refine awp_blockS ?_ | refine awp_blockC ?_ | refine awp_blockR ?_ | refine awp_skip ?_ | refine awp_ret ?_ | refine awp_exit ?_ | refine awp_region ?_ | refine awp_regionD (id := 8) 8 mixed (by decide +kernel) ?_ | refine awp_regionD (id := 21) 29 mixed (by decide +kernel) ?_ | refine awp_regionD (id := 26) 17 mixed (by decide +kernel) ?_ | refine awp_condM ?_ | refine And.intro ?_ ?_ | refine gM_splitN ?_ ?_ | refine gM_split ?_ ?_ | refine condM_splitDN ?_ ?_ | refine condM_splitD ?_ ?_ | refine condM_splitN ?_ ?_ | refine condM_split ?_ ?_ | refine condM_any ?_ ?_ | intro _) | (simp [*, hx]))
              all_goals first
                | exact inI64 (by omega) (by omega)
                | omega
                | skip
              obtain ⟨eh, es⟩ := kk
              (refine loopK_normal _ _ _ _ _ (k + 1) _ ?_ (by first | omega | (dsimp only; omega) | (simp; omega)) ?_; (· exact ⟨by omega, eh⟩); (refine le_of ?_ ?_ <;> first | trivial | (simp [*, es]; done)))
        · have hlti : ¬ (k : Int) + 1 < (pl.length : Int) := by omega
          have hke : pl.length - 1 = k := by omega
          have kj := keep hj
          clear hj
          repeat' (first | (with_reducible first | refine awp_seq ?_ | refine awp_blockS ?_ | refine awp_blockC ?_ | refine awp_blockR ?_ | refine awp_skip ?_ | refine awp_ret ?_ | refine awp_exit ?_ | refine awp_region ?_ | refine awp_regionD (id := 8) 8 mixed (by decide +kernel) ?_ | refine awp_regionD (id := 21) 29 mixed (by decide +kernel) ?_ | refine awp_regionD (id := 26) 17 mixed (by decide +kernel) ?_ | refine awp_condM ?_ | refine And.intro ?_ ?_ | refine gM_splitN ?_ ?_ | refine gM_split ?_ ?_ | refine condM_splitDN ?_ ?_ | refine condM_splitD ?_ ?_ | refine condM_splitN ?_ ?_ | refine condM_split ?_ ?_ | refine condM_any ?_ ?_ | intro _) | (simp [*, hlti]))
          all_goals (refine finW_intro () ?_ ?_; (· first | exact kj | (rw [hke]; exact kj)); (refine le_of ?_ ?_ <;> first | trivial | (simp [*, hke]; done)))
      · rw [keep_def, if_neg (by rw [hf]; decide)] at kR2
        have hsb := sumK_bd kh pl (pl.length - 1) hf
        clear hf
        have p0 := hpl 0 (by omega)
        have p1 := hpl (pl.length - 1) (by omega)
        obtain ⟨a, ha⟩ : ∃ a : Nat, nth pl 0 = a := ⟨(nth pl 0).toNat, by omega⟩
        obtain ⟨b, hb⟩ : ∃ b : Nat, nth pl (pl.length - 1) = b := ⟨(nth pl (pl.length - 1)).toNat, by omega⟩
        have la : a < n.places.length := by omega
        have lb : b < n.places.length := by omega
        have ch : RealCall Try.prog 65 [.agg [.sl n.places.length (strs n.places), .sl n.roads.length (cRoads n.roads)], .int .i64 a] (.sl n.places.length (ints (growS fLen n a 0).l)) true := rHeights_c n kh a la
        have hi := growS_inv kh (along_len kh) la (Int.le_refl 0) (by omega)
        have hl0 := hi.ll
        have hsm := hi.small kh lb
        rw [ha, hb, Int.toNat_natCast, Int.toNat_natCast] at kR2
        clear hi
        have hl1 : nth (growS fLen n a 0).l b < 6000000 ∧ -1 ≤ nth (growS fLen n a 0).l b := by omega
        have hmb : -(6000000 * 2000) ≤ nth (growS fLen n a 0).l b * (1000 + more) ∧ nth (growS fLen n a 0).l b * (1000 + more) ≤ 6000000 * 2000 := mul_bd 6000000 2000 (by omega) (by omega) (by omega) (by omega)
        rw [Int.mul_comm (nth (growS fLen n a 0).l b) (1000 + more)] at hmb
        have z0 : 0 < pl.length := by omega
        have z1 : pl.length - 1 < pl.length := by omega
        have z2 : ((pl.length : Int) - 1).toNat = pl.length - 1 := by omega
        generalize growS fLen n a 0 = G at *
        generalize sumK n pl (pl.length - 1) = S at *
        subst kR2
        repeat' (first | (with_reducible first | refine awp_seq ?_ | refine awp_blockS ?_ | refine awp_blockC ?_ | refine awp_blockR ?_ | refine awp_skip ?_ | refine awp_ret ?_ | refine awp_exit ?_ | refine awp_region ?_ | refine awp_regionD (id := 8) 8 mixed (by decide +kernel) ?_ | refine awp_regionD (id := 21) 29 mixed (by decide +kernel) ?_ | refine awp_regionD (id := 26) 17 mixed (by decide +kernel) ?_ | refine awp_condM ?_ | refine And.intro ?_ ?_ | refine gM_splitN ?_ ?_ | refine gM_split ?_ ?_ | refine condM_splitDN ?_ ?_ | refine condM_splitD ?_ ?_ | refine condM_splitN ?_ ?_ | refine condM_split ?_ ?_ | refine condM_any ?_ ?_ | refine cw (ch) ?_ | intro _) | (simp [*, z0, z1, z2, hb, hl0, lb]))
        all_goals first
          | exact inI64 (by omega) (by omega)
          | omega
          | skip
end Go.Proofs.Ytmedbghkldmlhaa
