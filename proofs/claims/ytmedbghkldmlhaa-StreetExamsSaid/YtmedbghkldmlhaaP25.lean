/- Contracts of functions for this claim: lemmas alone. -/
import Derived.Test.YtmedbghkldmlhaaP22
set_option linter.unusedSimpArgs false
set_option linter.unusedVariables false
namespace Go.Proofs.Ytmedbghkldmlhaa
open Go Go.Fi

theorem fTime_bd {n : Net} (h : NetOk n) {k : Nat} (hk : k < n.roads.length) (m : Int) (late : Bool) : 0 ≤ takesS (nth n.roads k).pts m late ∧ takesS (nth n.roads k).pts m late ≤ 14400 :=
  takes_bd (h.road k hk).pts (h.road k hk).inc m late
set_option maxHeartbeats 8000000 in
theorem labels_c (n : Net) (h : NetOk n) (from_ : Nat) (hfr : from_ < n.places.length) (start : Int) (h0 : 0 ≤ start) (h1 : start ≤ 700000) (late : Bool) :
    RealCall Try.prog 118 [aNet n, .int .i64 from_, .int .i64 start, .bool late] (.sl n.places.length (ints (growS (fTime late) n from_ start).l)) true := by
  have hnp := h.np
  have hnr := h.nr
  have ha := along_time h late
  have i0 := inv0 h hfr h0 h1
  have hR : growF (fTime late) n.roads (mu (grow0 n from_ start) + 1) (grow0 n from_ start) = growS (fTime late) n from_ start := rfl
  have hRi := growS_inv h ha hfr h0 h1
  generalize growS (fTime late) n from_ start = R at *
  have hs0 : grow0 n from_ start = ⟨(List.replicate n.places.length (-1)).set from_ start, List.replicate n.places.length (-1)⟩ := rfl
  rw [hs0] at i0 hR
  have kk := keep (And.intro h (And.intro ha (And.intro i0 (And.intro hR hRi))))
  clear hs0 i0 hR hRi ha
  unfold aNet cNet
  refine realcall_intro Try.func118 (by kernel_rfl) rfl (Nat.le_of_ble_eq_true (by kernel_rfl)) ?_
  simp only [Try.results118, Try.ntmps118]
  repeat' (first | (with_reducible first | refine awp_seq ?_ | refine awp_blockS ?_ | refine awp_blockC ?_ | refine awp_blockR ?_ | refine awp_skip ?_ | refine awp_ret ?_ | refine awp_exit ?_ | refine awp_region ?_ | refine awp_regionD (id := 15) 15 mixed (by decide +kernel) ?_ | refine awp_regionD (id := 17) 15 mixed (by decide +kernel) ?_ | refine awp_condM ?_ | refine And.intro ?_ ?_ | refine gM_splitN ?_ ?_ | refine gM_split ?_ ?_ | refine condM_splitDN ?_ ?_ | refine condM_splitD ?_ ?_ | refine condM_splitN ?_ ?_ | refine condM_split ?_ ?_ | refine condM_any ?_ ?_ | intro _) | (simp [*]))
  all_goals try omega
  refine awp_for4 2 (fun (k : Nat) => k ≤ n.places.length) [1, 2, 3, 4] (fun (k : Nat) => [(9, .msl 1 k 1 0 k), (10, .w false false (.int .i64 k))]) [0] (fun (k : Nat) => [(1, iA (List.replicate k (-1)))]) (fun (k : Nat) => n.places.length - k) (fun (_u : Unit) => True) [1, 2, 3, 4] (fun (_u : Unit) => [(9, .msl 1 n.places.length 1 0 n.places.length)]) [0] (fun (_u : Unit) => [(1, iA (List.replicate n.places.length (-1)))]) (0) (Nat.zero_le _) (le_gen [] (by simp) (by simp)) (fun k hk => ?_) (fun _u hf => ?_)
  · by_cases hlt : k < n.places.length
    · have hset : List.replicate k (-1 : Int) ++ [-1] = List.replicate (k + 1) (-1) := List.replicate_succ'.symm
      repeat' (first | (with_reducible first | refine awp_seq ?_ | refine awp_blockS ?_ | refine awp_blockC ?_ | refine awp_blockR ?_ | refine awp_skip ?_ | refine awp_ret ?_ | refine awp_exit ?_ | refine awp_region ?_ | refine awp_regionD (id := 15) 15 mixed (by decide +kernel) ?_ | refine awp_regionD (id := 17) 15 mixed (by decide +kernel) ?_ | refine awp_condM ?_ | refine And.intro ?_ ?_ | refine gM_splitN ?_ ?_ | refine gM_split ?_ ?_ | refine condM_splitDN ?_ ?_ | refine condM_splitD ?_ ?_ | refine condM_splitN ?_ ?_ | refine condM_split ?_ ?_ | refine condM_any ?_ ?_ | intro _) | (simp [*, hlt]))
      all_goals first
        | exact inI64 (by omega) (by omega)
        | omega
        | (refine loopK_normal _ _ _ _ _ (k + 1) _ ?_ (by first | omega | (dsimp only; omega) | (simp; omega)) ?_; (· omega); (refine le_of ?_ ?_ <;> first | trivial | (simp [*, hset]; done)))
        | skip
    · have hke : k = n.places.length := by omega
      subst hke
      repeat' (first | (with_reducible first | refine awp_seq ?_ | refine awp_blockS ?_ | refine awp_blockC ?_ | refine awp_blockR ?_ | refine awp_skip ?_ | refine awp_ret ?_ | refine awp_exit ?_ | refine awp_region ?_ | refine awp_regionD (id := 15) 15 mixed (by decide +kernel) ?_ | refine awp_regionD (id := 17) 15 mixed (by decide +kernel) ?_ | refine awp_condM ?_ | refine And.intro ?_ ?_ | refine gM_splitN ?_ ?_ | refine gM_split ?_ ?_ | refine condM_splitDN ?_ ?_ | refine condM_splitD ?_ ?_ | refine condM_splitN ?_ ?_ | refine condM_split ?_ ?_ | refine condM_any ?_ ?_ | intro _) | (simp [*]))
      (refine finW_intro () ?_ ?_; (· trivial); (refine le_of ?_ ?_ <;> first | trivial | (simp [*]; done)))
  · repeat' (first | (with_reducible first | refine awp_seq ?_ | refine awp_blockS ?_ | refine awp_blockC ?_ | refine awp_blockR ?_ | refine awp_skip ?_ | refine awp_ret ?_ | refine awp_exit ?_ | refine awp_region ?_ | refine awp_regionD (id := 15) 15 mixed (by decide +kernel) ?_ | refine awp_regionD (id := 17) 15 mixed (by decide +kernel) ?_ | refine awp_condM ?_ | refine And.intro ?_ ?_ | refine gM_splitN ?_ ?_ | refine gM_split ?_ ?_ | refine condM_splitDN ?_ ?_ | refine condM_splitD ?_ ?_ | refine condM_splitN ?_ ?_ | refine condM_split ?_ ?_ | refine condM_any ?_ ?_ | intro _) | (simp [*, hfr]))
    all_goals try omega
    obtain ⟨h, ha, i0, hR, hRi⟩ := kk
    generalize (List.replicate n.places.length (-1 : Int)).set from_ start = l0 at *
    generalize List.replicate n.places.length (-1 : Int) = b0 at *
    have kR := keep hRi
    have kt := keep (fun k hk m => fTime_bd h (k := k) hk m late)
    clear hRi
    refine awp_for4 2 (fun (x : GS × Bool) => Inv n x.1 ∧ (if x.2 = true then growF (fTime late) n.roads (mu x.1 + 1) x.1 else x.1) = R) [3, 4, 9] (fun (x : GS × Bool) => [(11, .w false false (.bool x.2))]) [0] (fun (x : GS × Bool) => [(1, iA x.1.l)]) (fun (x : GS × Bool) => 2 * mu x.1 + (if x.2 = true then 1 else 0)) (fun (_u : Unit) => True) [9] (fun (_u : Unit) => []) [0] (fun (_u : Unit) => [(1, iA R.l)]) (((⟨l0, b0⟩ : GS), true)) ⟨i0, hR⟩ (le_gen [] (by simp) (by simp)) (fun x hk => ?_) (fun _u hf => ?_)
    · obtain ⟨s, c⟩ := x
      obtain ⟨hi, hj⟩ := hk
      dsimp only at hi hj ⊢
      cases c with
      | false =>
        simp only [Bool.false_eq_true, if_false] at hj
        subst hj
        repeat' (first | (with_reducible first | refine awp_seq ?_ | refine awp_blockS ?_ | refine awp_blockC ?_ | refine awp_blockR ?_ | refine awp_skip ?_ | refine awp_ret ?_ | refine awp_exit ?_ | refine awp_region ?_ | refine awp_regionD (id := 15) 15 mixed (by decide +kernel) ?_ | refine awp_regionD (id := 17) 15 mixed (by decide +kernel) ?_ | refine awp_condM ?_ | refine And.intro ?_ ?_ | refine gM_splitN ?_ ?_ | refine gM_split ?_ ?_ | refine condM_splitDN ?_ ?_ | refine condM_splitD ?_ ?_ | refine condM_splitN ?_ ?_ | refine condM_split ?_ ?_ | refine condM_any ?_ ?_ | intro _) | (simp [*]))
        (refine finW_intro () ?_ ?_; (· trivial); (refine le_of ?_ ?_ <;> first | trivial | (simp [*]; done)))
      | true =>
        simp only [if_true] at hj
        obtain ⟨r1, r2, r3, r4⟩ := runR_inv h ha n.roads.length 0 s false hi (by omega)
        have hg : growF (fTime late) n.roads (mu s + 1) s = if (runR (fTime late) n.roads n.roads.length 0 s false).2 = true then growF (fTime late) n.roads (mu s) (runR (fTime late) n.roads n.roads.length 0 s false).1 else (runR (fTime late) n.roads n.roads.length 0 s false).1 := rfl
        rw [hg] at hj
        have hfu := growF_fuel h ha (mu s) _ r1
        generalize hRR : runR (fTime late) n.roads n.roads.length 0 s false = RR at *
        have kk := keep (And.intro r1 (And.intro r2 (And.intro r3 (And.intro r4 (And.intro hj hfu)))))
        clear hg r1 r2 r3 r4 hj hfu
        repeat' (first | (with_reducible first | refine awp_seq ?_ | refine awp_blockS ?_ | refine awp_blockC ?_ | refine awp_blockR ?_ | refine awp_skip ?_ | refine awp_ret ?_ | refine awp_exit ?_ | refine awp_region ?_ | refine awp_regionD (id := 15) 15 mixed (by decide +kernel) ?_ | refine awp_regionD (id := 17) 15 mixed (by decide +kernel) ?_ | refine awp_condM ?_ | refine And.intro ?_ ?_ | refine gM_splitN ?_ ?_ | refine gM_split ?_ ?_ | refine condM_splitDN ?_ ?_ | refine condM_splitD ?_ ?_ | refine condM_splitN ?_ ?_ | refine condM_split ?_ ?_ | refine condM_any ?_ ?_ | intro _) | (simp [*]))
        refine awp_for4 2 (fun (y : Nat × GS × Bool) => y.1 ≤ n.roads.length ∧ Inv n y.2.1 ∧ runR (fTime late) n.roads (n.roads.length - y.1) y.1 y.2.1 y.2.2 = RR) [3, 4, 9] (fun (y : Nat × GS × Bool) => [(11, .w false false (.bool y.2.2)), (12, .w false false (.int .i64 y.1))]) [0] (fun (y : Nat × GS × Bool) => [(1, iA y.2.1.l)]) (fun (y : Nat × GS × Bool) => n.roads.length - y.1) (fun (_u : Unit) => True) [3, 4, 9] (fun (_u : Unit) => [(11, .w false false (.bool RR.2))]) [0] (fun (_u : Unit) => [(1, iA RR.1.l)]) (((0 : Nat), s, false)) ⟨Nat.zero_le _, hi, hRR⟩ (le_gen [] (by simp) (by simp)) (fun y hk => ?_) (fun _u hf => ?_)
        · obtain ⟨k, s, c⟩ := y
          obtain ⟨hk, hi, hj⟩ := hk
          dsimp only at hk hi hj ⊢
          by_cases hlt : k < n.roads.length
          · rw [runR_step hlt] at hj
            have hri := relax_inv h ha hi hlt
            have hok := h.road k hlt
            have f1 := hok.frm
            have f2 := hok.to
            have hll := hi.ll
            have hs1 := hi.small h (i := (nth n.roads k).frm.toNat) (by omega)
            have hcg := rTakesR_c (nth n.roads k) (nth s.l (nth n.roads k).frm.toNat) hok.pts hok.inc
            have hbf := kt k hlt (nth s.l (nth n.roads k).frm.toNat)
            have hbf0 := fTime_bd h hlt (nth s.l (nth n.roads k).frm.toNat) false
            generalize hr : nth n.roads k = r at *
            have t1 : r.frm.toNat < n.places.length := by omega
            have t2 : r.to.toNat < n.places.length := by omega
            by_cases ha1 : nth s.l r.frm.toNat = -1
            · have hrel : relax (fTime late) r k s = (s, false) := if_pos ha1
              rw [hrel, Bool.or_false] at hj
              have kj := keep (And.intro hi hj)
              clear hj hri hi hrel hcg hs1 hok hRR hbf hbf0
              repeat' (first | (with_reducible first | refine awp_seq ?_ | refine awp_blockS ?_ | refine awp_blockC ?_ | refine awp_blockR ?_ | refine awp_skip ?_ | refine awp_ret ?_ | refine awp_exit ?_ | refine awp_region ?_ | refine awp_regionD (id := 15) 15 mixed (by decide +kernel) ?_ | refine awp_regionD (id := 17) 15 mixed (by decide +kernel) ?_ | refine awp_condM ?_ | refine And.intro ?_ ?_ | refine gM_splitN ?_ ?_ | refine gM_split ?_ ?_ | refine condM_splitDN ?_ ?_ | refine condM_splitD ?_ ?_ | refine condM_splitN ?_ ?_ | refine condM_split ?_ ?_ | refine condM_any ?_ ?_ | intro _) | (simp [*, hlt, hr, cRoad, t1, t2, hll, ha1]))
              all_goals first
                | exact inI64 (by omega) (by omega)
                | omega
                | (refine loopK_normal _ _ _ _ _ (k + 1, s, c) _ ?_ (by first | omega | (dsimp only; omega) | (simp; omega)) ?_; (· exact ⟨by dsimp only; omega, kj.1, kj.2⟩); (refine le_of ?_ ?_ <;> first | trivial | (simp [*]; done)))
                | skip
            · have hsm : 0 ≤ nth s.l r.frm.toNat ∧ nth s.l r.frm.toNat ≤ 5000000 := by
                rcases hs1 with h | h
                · exact absurd h ha1
                · exact h
              have hcc : RealCall Try.prog 23 [.agg [.str r.name, .int .i64 r.frm, .int .i64 r.to, .int .i64 r.metres, .sl r.pts.length (cPts r.pts)], .int .i64 (nth s.l r.frm.toNat)] (.agg [.int .i64 (takesS r.pts (nth s.l r.frm.toNat) false), .int .i64 (takesS r.pts (nth s.l r.frm.toNat) true)]) true := hcg hsm.1 (by omega)
              have hrel0 : relax (fTime late) r k s = if nth s.l r.to.toNat = -1 ∨ nth s.l r.frm.toNat + takesS r.pts (nth s.l r.frm.toNat) late < nth s.l r.to.toNat then (⟨s.l.set r.to.toNat (nth s.l r.frm.toNat + takesS r.pts (nth s.l r.frm.toNat) late), s.b.set r.to.toNat k⟩, true) else (s, false) := if_neg ha1
              have hf : ¬ nth s.l r.frm.toNat < 0 := by omega
              have hto : nth s.l r.to.toNat < 0 ↔ nth s.l r.to.toNat = -1 := by
                rcases hi.small h (i := r.to.toNat) t2 with h | h <;> omega
              clear hcg hs1 hok hRR
              clear kt h ha kk
              cases late with
              | false =>
                by_cases hb : nth s.l r.to.toNat = -1 ∨ nth s.l r.frm.toNat + takesS r.pts (nth s.l r.frm.toNat) false < nth s.l r.to.toNat
                · rw [if_pos hb] at hrel0
                  rw [hrel0] at hj hri
                  rw [Bool.or_true] at hj
                  have kj := keep (And.intro hri.1 hj)
                  clear hj hri hi hrel0 hto
                  by_cases hb1 : nth s.l r.to.toNat = -1
                  · clear hb
                    repeat' (first | (with_reducible first | refine awp_seq ?_ | refine awp_blockS ?_ | refine awp_blockC ?_ | refine awp_blockR ?_ | refine awp_skip ?_ | refine awp_ret ?_ | refine awp_exit ?_ | refine awp_region ?_ | refine awp_regionD (id := 15) 15 mixed (by decide +kernel) ?_ | refine awp_regionD (id := 17) 15 mixed (by decide +kernel) ?_ | refine awp_condM ?_ | refine And.intro ?_ ?_ | refine gM_splitN ?_ ?_ | refine gM_split ?_ ?_ | refine condM_splitDN ?_ ?_ | refine condM_splitD ?_ ?_ | refine condM_splitN ?_ ?_ | refine condM_split ?_ ?_ | refine condM_any ?_ ?_ | refine cw (hcc) ?_ | intro _) | (simp [*, hlt, hr, cRoad, t1, t2, hll, hb1, hf]))
                    all_goals first
                      | exact inI64 (by omega) (by omega)
                      | omega
                      | (refine loopK_normal _ _ _ _ _ (k + 1, ⟨s.l.set r.to.toNat (nth s.l r.frm.toNat + takesS r.pts (nth s.l r.frm.toNat) false), s.b.set r.to.toNat k⟩, true) _ ?_ (by first | omega | (dsimp only; omega) | (simp; omega)) ?_; (· exact ⟨by dsimp only; omega, kj.1, kj.2⟩); (refine le_of ?_ ?_ <;> first | trivial | (simp [*]; done)))
                      | skip
                  · have hb2 : nth s.l r.frm.toNat + takesS r.pts (nth s.l r.frm.toNat) false < nth s.l r.to.toNat := hb.resolve_left hb1
                    have hb3 : ¬ nth s.l r.to.toNat < 0 := by omega
                    clear hb
                    repeat' (first | (with_reducible first | refine awp_seq ?_ | refine awp_blockS ?_ | refine awp_blockC ?_ | refine awp_blockR ?_ | refine awp_skip ?_ | refine awp_ret ?_ | refine awp_exit ?_ | refine awp_region ?_ | refine awp_regionD (id := 15) 15 mixed (by decide +kernel) ?_ | refine awp_regionD (id := 17) 15 mixed (by decide +kernel) ?_ | refine awp_condM ?_ | refine And.intro ?_ ?_ | refine gM_splitN ?_ ?_ | refine gM_split ?_ ?_ | refine condM_splitDN ?_ ?_ | refine condM_splitD ?_ ?_ | refine condM_splitN ?_ ?_ | refine condM_split ?_ ?_ | refine condM_any ?_ ?_ | refine cw (hcc) ?_ | intro _) | (simp [*, hlt, hr, cRoad, t1, t2, hll, hb2, hb3, hf]))
                    all_goals first
                      | exact inI64 (by omega) (by omega)
                      | omega
                      | (refine loopK_normal _ _ _ _ _ (k + 1, ⟨s.l.set r.to.toNat (nth s.l r.frm.toNat + takesS r.pts (nth s.l r.frm.toNat) false), s.b.set r.to.toNat k⟩, true) _ ?_ (by first | omega | (dsimp only; omega) | (simp; omega)) ?_; (· exact ⟨by dsimp only; omega, kj.1, kj.2⟩); (refine le_of ?_ ?_ <;> first | trivial | (simp [*]; done)))
                      | skip
                · rw [if_neg hb] at hrel0
                  rw [hrel0] at hj hri
                  rw [Bool.or_false] at hj
                  have kj := keep (And.intro hi hj)
                  have hb1 : ¬ nth s.l r.to.toNat < 0 := fun h => hb (.inl (hto.1 h))
                  have hb2 : ¬ nth s.l r.frm.toNat + takesS r.pts (nth s.l r.frm.toNat) false < nth s.l r.to.toNat := fun h => hb (.inr h)
                  clear hj hri hi hrel0 hb hto
                  repeat' (first | (with_reducible first | refine awp_seq ?_ | refine awp_blockS ?_ | refine awp_blockC ?_ | refine awp_blockR ?_ | refine awp_skip ?_ | refine awp_ret ?_ | refine awp_exit ?_ | refine awp_region ?_ | refine awp_regionD (id := 15) 15 mixed (by decide +kernel) ?_ | refine awp_regionD (id := 17) 15 mixed (by decide +kernel) ?_ | refine awp_condM ?_ | refine And.intro ?_ ?_ | refine gM_splitN ?_ ?_ | refine gM_split ?_ ?_ | refine condM_splitDN ?_ ?_ | refine condM_splitD ?_ ?_ | refine condM_splitN ?_ ?_ | refine condM_split ?_ ?_ | refine condM_any ?_ ?_ | refine cw (hcc) ?_ | intro _) | (simp [*, hlt, hr, cRoad, t1, t2, hll, hb1, hb2, hf]))
                  all_goals first
                    | exact inI64 (by omega) (by omega)
                    | omega
                    | (refine loopK_normal _ _ _ _ _ (k + 1, s, c) _ ?_ (by first | omega | (dsimp only; omega) | (simp; omega)) ?_; (· exact ⟨by dsimp only; omega, kj.1, kj.2⟩); (refine le_of ?_ ?_ <;> first | trivial | (simp [*]; done)))
                    | skip
              | true =>
                by_cases hb : nth s.l r.to.toNat = -1 ∨ nth s.l r.frm.toNat + takesS r.pts (nth s.l r.frm.toNat) true < nth s.l r.to.toNat
                · rw [if_pos hb] at hrel0
                  rw [hrel0] at hj hri
                  rw [Bool.or_true] at hj
                  have kj := keep (And.intro hri.1 hj)
                  clear hj hri hi hrel0 hto
                  by_cases hb1 : nth s.l r.to.toNat = -1
                  · clear hb
                    repeat' (first | (with_reducible first | refine awp_seq ?_ | refine awp_blockS ?_ | refine awp_blockC ?_ | refine awp_blockR ?_ | refine awp_skip ?_ | refine awp_ret ?_ | refine awp_exit ?_ | refine awp_region ?_ | refine awp_regionD (id := 15) 15 mixed (by decide +kernel) ?_ | refine awp_regionD (id := 17) 15 mixed (by decide +kernel) ?_ | refine awp_condM ?_ | refine And.intro ?_ ?_ | refine gM_splitN ?_ ?_ | refine gM_split ?_ ?_ | refine condM_splitDN ?_ ?_ | refine condM_splitD ?_ ?_ | refine condM_splitN ?_ ?_ | refine condM_split ?_ ?_ | refine condM_any ?_ ?_ | refine cw (hcc) ?_ | intro _) | (simp [*, hlt, hr, cRoad, t1, t2, hll, hb1, hf]))
                    all_goals first
                      | exact inI64 (by omega) (by omega)
                      | omega
                      | (refine loopK_normal _ _ _ _ _ (k + 1, ⟨s.l.set r.to.toNat (nth s.l r.frm.toNat + takesS r.pts (nth s.l r.frm.toNat) true), s.b.set r.to.toNat k⟩, true) _ ?_ (by first | omega | (dsimp only; omega) | (simp; omega)) ?_; (· exact ⟨by dsimp only; omega, kj.1, kj.2⟩); (refine le_of ?_ ?_ <;> first | trivial | (simp [*]; done)))
                      | skip
                  · have hb2 : nth s.l r.frm.toNat + takesS r.pts (nth s.l r.frm.toNat) true < nth s.l r.to.toNat := hb.resolve_left hb1
                    have hb3 : ¬ nth s.l r.to.toNat < 0 := by omega
                    clear hb
                    repeat' (first | (with_reducible first | refine awp_seq ?_ | refine awp_blockS ?_ | refine awp_blockC ?_ | refine awp_blockR ?_ | refine awp_skip ?_ | refine awp_ret ?_ | refine awp_exit ?_ | refine awp_region ?_ | refine awp_regionD (id := 15) 15 mixed (by decide +kernel) ?_ | refine awp_regionD (id := 17) 15 mixed (by decide +kernel) ?_ | refine awp_condM ?_ | refine And.intro ?_ ?_ | refine gM_splitN ?_ ?_ | refine gM_split ?_ ?_ | refine condM_splitDN ?_ ?_ | refine condM_splitD ?_ ?_ | refine condM_splitN ?_ ?_ | refine condM_split ?_ ?_ | refine condM_any ?_ ?_ | refine cw (hcc) ?_ | intro _) | (simp [*, hlt, hr, cRoad, t1, t2, hll, hb2, hb3, hf]))
                    all_goals first
                      | exact inI64 (by omega) (by omega)
                      | omega
                      | (refine loopK_normal _ _ _ _ _ (k + 1, ⟨s.l.set r.to.toNat (nth s.l r.frm.toNat + takesS r.pts (nth s.l r.frm.toNat) true), s.b.set r.to.toNat k⟩, true) _ ?_ (by first | omega | (dsimp only; omega) | (simp; omega)) ?_; (· exact ⟨by dsimp only; omega, kj.1, kj.2⟩); (refine le_of ?_ ?_ <;> first | trivial | (simp [*]; done)))
                      | skip
                · rw [if_neg hb] at hrel0
                  rw [hrel0] at hj hri
                  rw [Bool.or_false] at hj
                  have kj := keep (And.intro hi hj)
                  have hb1 : ¬ nth s.l r.to.toNat < 0 := fun h => hb (.inl (hto.1 h))
                  have hb2 : ¬ nth s.l r.frm.toNat + takesS r.pts (nth s.l r.frm.toNat) true < nth s.l r.to.toNat := fun h => hb (.inr h)
                  clear hj hri hi hrel0 hb hto
                  repeat' (first | (with_reducible first | refine awp_seq ?_ | refine awp_blockS ?_ | refine awp_blockC ?_ | refine awp_blockR ?_ | refine awp_skip ?_ | refine awp_ret ?_ | refine awp_exit ?_ | refine awp_region ?_ | refine awp_regionD (id := 15) 15 mixed (by decide +kernel) ?_ | refine awp_regionD (id := 17) 15 mixed (by decide +kernel) ?_ | refine awp_condM ?_ | refine And.intro ?_ ?_ | refine gM_splitN ?_ ?_ | refine gM_split ?_ ?_ | refine condM_splitDN ?_ ?_ | refine condM_splitD ?_ ?_ | refine condM_splitN ?_ ?_ | refine condM_split ?_ ?_ | refine condM_any ?_ ?_ | refine cw (hcc) ?_ | intro _) | (simp [*, hlt, hr, cRoad, t1, t2, hll, hb1, hb2, hf]))
                  all_goals first
                    | exact inI64 (by omega) (by omega)
                    | omega
                    | (refine loopK_normal _ _ _ _ _ (k + 1, s, c) _ ?_ (by first | omega | (dsimp only; omega) | (simp; omega)) ?_; (· exact ⟨by dsimp only; omega, kj.1, kj.2⟩); (refine le_of ?_ ?_ <;> first | trivial | (simp [*]; done)))
                    | skip
          · have hke : k = n.roads.length := by omega
            subst hke
            rw [Nat.sub_self] at hj
            have hj : (s, c) = RR := hj
            subst hj
            repeat' (first | (with_reducible first | refine awp_seq ?_ | refine awp_blockS ?_ | refine awp_blockC ?_ | refine awp_blockR ?_ | refine awp_skip ?_ | refine awp_ret ?_ | refine awp_exit ?_ | refine awp_region ?_ | refine awp_regionD (id := 15) 15 mixed (by decide +kernel) ?_ | refine awp_regionD (id := 17) 15 mixed (by decide +kernel) ?_ | refine awp_condM ?_ | refine And.intro ?_ ?_ | refine gM_splitN ?_ ?_ | refine gM_split ?_ ?_ | refine condM_splitDN ?_ ?_ | refine condM_splitD ?_ ?_ | refine condM_splitN ?_ ?_ | refine condM_split ?_ ?_ | refine condM_any ?_ ?_ | intro _) | (simp [*]))
            (refine finW_intro () ?_ ?_; (· trivial); (refine le_of ?_ ?_ <;> first | trivial | (simp [*]; done)))
        · obtain ⟨r1, r2, r3, r4, hj, hfu⟩ := kk
          clear hRR
          obtain ⟨s', c'⟩ := RR
          dsimp only at r1 r2 r3 r4 hj hfu ⊢
          cases c' with
          | true =>
            have hlt := r4 rfl rfl
            rw [if_pos rfl, hfu hlt] at hj
            have kj := keep (And.intro r1 hj)
            clear hfu hj r3 r4
            repeat' (first | (with_reducible first | refine awp_seq ?_ | refine awp_blockS ?_ | refine awp_blockC ?_ | refine awp_blockR ?_ | refine awp_skip ?_ | refine awp_ret ?_ | refine awp_exit ?_ | refine awp_region ?_ | refine awp_regionD (id := 15) 15 mixed (by decide +kernel) ?_ | refine awp_regionD (id := 17) 15 mixed (by decide +kernel) ?_ | refine awp_condM ?_ | refine And.intro ?_ ?_ | refine gM_splitN ?_ ?_ | refine gM_split ?_ ?_ | refine condM_splitDN ?_ ?_ | refine condM_splitD ?_ ?_ | refine condM_splitN ?_ ?_ | refine condM_split ?_ ?_ | refine condM_any ?_ ?_ | intro _) | (simp [*]))
            (refine loopK_normal _ _ _ _ _ (s', true) _ ?_ (by first | omega | (dsimp only; omega) | (simp; omega)) ?_; (· exact ⟨kj.1, kj.2⟩); (refine le_of ?_ ?_ <;> first | trivial | (simp [*]; done)))
          | false =>
            have he := (r3 rfl).1
            rw [if_neg (by decide)] at hj
            have kj := keep (And.intro r1 hj)
            have hmu : mu s' = mu s := by rw [he]
            clear hfu hj r3 r4 he
            repeat' (first | (with_reducible first | refine awp_seq ?_ | refine awp_blockS ?_ | refine awp_blockC ?_ | refine awp_blockR ?_ | refine awp_skip ?_ | refine awp_ret ?_ | refine awp_exit ?_ | refine awp_region ?_ | refine awp_regionD (id := 15) 15 mixed (by decide +kernel) ?_ | refine awp_regionD (id := 17) 15 mixed (by decide +kernel) ?_ | refine awp_condM ?_ | refine And.intro ?_ ?_ | refine gM_splitN ?_ ?_ | refine gM_split ?_ ?_ | refine condM_splitDN ?_ ?_ | refine condM_splitD ?_ ?_ | refine condM_splitN ?_ ?_ | refine condM_split ?_ ?_ | refine condM_any ?_ ?_ | intro _) | (simp [*]))
            (refine loopK_normal _ _ _ _ _ (s', false) _ ?_ (by first | omega | (dsimp only; omega) | (simp; omega)) ?_; (· exact ⟨kj.1, kj.2⟩); (refine le_of ?_ ?_ <;> first | trivial | (simp [*]; done)))
    · have hRl := kR.ll
      repeat' (first | (with_reducible first | refine awp_seq ?_ | refine awp_blockS ?_ | refine awp_blockC ?_ | refine awp_blockR ?_ | refine awp_skip ?_ | refine awp_ret ?_ | refine awp_exit ?_ | refine awp_region ?_ | refine awp_regionD (id := 15) 15 mixed (by decide +kernel) ?_ | refine awp_regionD (id := 17) 15 mixed (by decide +kernel) ?_ | refine awp_condM ?_ | refine And.intro ?_ ?_ | refine gM_splitN ?_ ?_ | refine gM_split ?_ ?_ | refine condM_splitDN ?_ ?_ | refine condM_splitD ?_ ?_ | refine condM_splitN ?_ ?_ | refine condM_split ?_ ?_ | refine condM_any ?_ ?_ | intro _) | (simp [*, hRl]))
end Go.Proofs.Ytmedbghkldmlhaa
