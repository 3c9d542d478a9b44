/- Contracts of functions for this claim: lemmas alone. -/
import Derived.Test.YtgoemokfpfnlkaaP89
set_option linter.unusedSimpArgs false
set_option linter.unusedVariables false
namespace Go.Proofs.Ytgoemokfpfnlkaa
open Go Go.Fi
set_option maxRecDepth 20000

theorem none_ask (r : Rul) (h : RulOk r) (s : Int) (h0 : 0 ≤ s) (h1 : s ≤ 604800) : AskOk r [] s where
  rr := h
  ll := ⟨by decide, fun k hk => absurd hk (Nat.not_lt_zero _), fun k hk => absurd hk (Nat.not_lt_zero _), fun k _ hk => absurd hk (Nat.not_lt_zero _), fun k _ hk => absurd hk (Nat.not_lt_zero _), fun k hk => absurd hk (Nat.not_lt_zero _)⟩
  bb := ⟨by decide, fun k hk => absurd hk (Nat.not_lt_zero _)⟩
  ss := ⟨h0, by omega⟩
  ee := h0
  ff := fun k hk => absurd hk (Nat.not_lt_zero _)
set_option maxHeartbeats 4000000 in
theorem duty_law (n : Net) (t1 t2 t3 : Int) (r : Rul) : RealCall Try.prog 3 [aNet n, .agg [.int .i64 t1, .int .i64 t2, .int .i64 t3], .agg (cRul r)] (.bool true) true := by
  have hA := dutied_c
  have c5 := few_c n
  cases hf : fewB n with
  | false => rw [hf] at c5; exact du_few n t1 t2 t3 r hA c5
  | true =>
    rw [hf] at c5
    have h := few_in hf
    have hnp := h.np
    have c6 := rNetErr_c n h
    by_cases hn : (netS n).2.2 = 0
    · rw [hn] at c6
      have c7 : RealCall Try.prog 7 [aNet n, .agg [.int .i64 t1, .int .i64 t2, .int .i64 t3]] (.int .i64 (tripE n ⟨t1, t2, t3⟩)) true := rTripErr_c n ⟨t1, t2, t3⟩ (by omega)
      by_cases ht : tripE n ⟨t1, t2, t3⟩ = 0
      · rw [ht] at c7
        have c8 := rCheckRules_c r
        by_cases hr : rulE r = 0
        · rw [hr] at c8
          have rok := rul_ok hr
          have he : otE n ⟨t1, t2, t3⟩ = 0 := by rw [otE_trip hn]; exact ht
          obtain ⟨a, b, ok⟩ := trip_ok h he
          have c10 := rCopy_c n h
          have ce : RealCall Try.prog 9 [aNet n, .agg [.int .i64 t1, .int .i64 t2, .int .i64 t3]] (markP (estS n ⟨t1, t2, t3⟩)) true := estimate_c n h ⟨t1, t2, t3⟩
          have f1 : t1 = a := ok.fa
          have f2 : t2 = b := ok.fb
          have f3 : 0 ≤ t3 := ok.lo
          have f4 : t3 ≤ 604800 := ok.hi
          have g0 := growS_inv ok.ok (along_time ok.ok false) ok.la ok.lo (by omega : t3 ≤ 700000)
          have g1 := growS_inv ok.ok (along_time ok.ok true) ok.la ok.lo (by omega : t3 ≤ 700000)
          have b0 := g0.small ok.ok ok.lb
          have b1 := g1.small ok.ok ok.lb
          have up := grow_some ok.ok (along_time ok.ok false) (along_time ok.ok true) (time_mono ok.ok true) ok.la ok.lo (by omega : t3 ≤ 700000) ok.lo (by omega : t3 ≤ 700000) ok.lb
          dsimp only at g0 g1 b0 b1 up
          subst f1
          subst f2
          have eS : estS n ⟨(a : Int), (b : Int), t3⟩ = if nth (growS (fTime false) n a t3).l b = -1 then (0, 0, 12) else (nth (growS (fTime false) n a t3).l b, nth (growS (fTime true) n a t3).l b, 0) := by
            unfold estS; rw [if_neg (by simp [he])]; rfl
          rw [eS] at ce
          by_cases hq : nth (growS (fTime false) n a t3).l b = -1
          · rw [if_pos hq] at ce
            exact du_none n a b t3 r hA c5 c6 c7 c8 c10 ce
          · rw [if_neg hq] at ce
            have hn1 : nth (growS (fTime true) n a t3).l b ≠ -1 := by
              rcases b0 with e | e
              · exact absurd e hq
              · have := up e.1
                intro h; rw [h] at this; exact absurd this (by decide)
            obtain ⟨R0, p1, p2, p3, p4⟩ := tree_way ok.ok (along_time ok.ok false) (time_mono ok.ok false) ok.la ok.lo (by omega : t3 ≤ 700000) ok.lb hq
            obtain ⟨R1, r1, r2, r3, r4⟩ := tree_way ok.ok (along_time ok.ok true) (time_mono ok.ok true) ok.la ok.lo (by omega : t3 ≤ 700000) ok.lb hn1
            dsimp only at p1 p4 r1 r4
            have k1 : t3 ≤ nth (growS (fTime false) n a t3).l b := by
              have := (evalW_bd ok.ok false R0.reverse t3 p3.ok.idx).1
              rw [p4] at this; exact this
            have k2 : nth (growS (fTime false) n a t3).l b ≤ nth (growS (fTime true) n a t3).l b := by
              have q1 := evalW_ends ok.ok R1.reverse t3 t3 r3.ok.idx f3 (Int.le_refl _)
              have q2 := (fixed_least ok.ok (time_mono ok.ok false) (growS_fixed ok.ok (along_time ok.ok false) ok.la ok.lo (by omega : t3 ≤ 700000)) (Int.le_refl _) (joins_reach ok.ok r3.ok a b t3 (r3.joins ok.ok))).2
              dsimp only at q1 q2
              rw [r4] at q1
              omega
            have l1 : R1.reverse.length = R1.length := List.length_reverse
            have c14 := fast_ok n h ⟨(a : Int), (b : Int), t3⟩ a b ok true he hn1 _ (by omega) R1 r1
            have c15 := arrivalOf_c n h R1.reverse (by omega) t3
            rw [arr_good (by rw [ow_net hn, way_of r3.ok (by omega)]) (winB_t ⟨f3, f4⟩), r4] at c15
            rw [l1] at c15
            have c11 := rWithin_c (nth (growS (fTime false) n a t3).l b) t3 (nth (growS (fTime true) n a t3).l b)
            rw [winB_t ⟨k1, k2⟩] at c11
            have k3 : nth (growS (fTime true) n a t3).l b ≤ 100000000 := by rcases b1 with e | e <;> omega
            generalize nth (growS (fTime false) n a t3).l b = lo at *
            generalize nth (growS (fTime true) n a t3).l b = hi at *
            by_cases hl : 200000 < hi - t3
            · exact du_long n a b t3 r hA c5 c6 c7 c8 c10 lo hi f3 k1 k2 k3 ce c11 hl
            · have ask := none_ask r rok t3 f3 f4
              have c12 := allowed_c r [] t3 (lo - t3) (hi - t3) ask (by omega) (by omega) (by omega)
              have c13 := longest_c r [] t3 ask
              have hK := brs_none r t3
              generalize (if r.stint ≤ (if r.shift ≤ r.week then r.shift else r.week) then r.stint else (if r.shift ≤ r.week then r.shift else r.week)) = K at *
              have hK0 : 0 ≤ K := by
                have := (hK 0 (by omega) rok).1 rfl
                exact this
              have eK := search_thr (fun n => !decide (brsS r [] t3 (n : Int) = 0)) 200001 K hK0 (fun k hk => by
                have := hK (k : Int) (by omega) rok
                simp [this])
              rw [eK] at c13
              have hH := hK (hi - t3) (by omega) rok
              by_cases hy : hi - t3 ≤ K
              · rw [if_pos (hH.2 hy)] at c12
                exact du_yes n a b t3 r hA c5 c6 c7 c8 c10 lo hi f3 k1 k2 k3 ce c11 hl _ _ _ c12 c13 _ _ _ c14 c15 rfl (by split <;> omega)
              · rw [if_neg (fun e => hy (hH.1 e))] at c12
                exact du_no n a b t3 r hA c5 c6 c7 c8 c10 lo hi f3 k1 k2 k3 ce c11 hl _ _ _ c12 c13 _ _ _ c14 c15 (by split <;> decide) (by split <;> omega)
        · exact du_rul n t1 t2 t3 r hA c5 c6 c7 _ hr c8
      · exact du_trip n t1 t2 t3 r hA c5 c6 _ ht c7
    · exact du_net n t1 t2 t3 r hA c5 _ hn c6
end Go.Proofs.Ytgoemokfpfnlkaa
