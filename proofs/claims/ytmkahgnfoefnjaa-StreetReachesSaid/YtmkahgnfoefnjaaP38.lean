/- Contracts of functions for this claim: lemmas alone. -/
import Derived.Test.YtmkahgnfoefnjaaP36
set_option linter.unusedSimpArgs false
set_option linter.unusedVariables false
namespace Go.Proofs.Ytmkahgnfoefnjaa
open Go Go.Fi

set_option maxHeartbeats 8000000 in
theorem rHeights_c (n : Net) (h : NetOk n) (from_ : Nat) (hfr : from_ < n.places.length) :
    RealCall Try.prog 32 [aNet n, .int .i64 from_] (.sl n.places.length (ints (growS fLen n from_ 0).l)) true := by
  have hnp := h.np
  have hnr := h.nr
  have ha := along_len h
  have i0 := inv0 h hfr (Int.le_refl 0) (by omega)
  have hR : growF fLen n.roads (mu (grow0 n from_ 0) + 1) (grow0 n from_ 0) = growS fLen n from_ 0 := rfl
  have hRi := growS_inv h ha hfr (Int.le_refl 0) (by omega)
  generalize growS fLen n from_ 0 = R at *
  have hs0 : grow0 n from_ 0 = ⟨(List.replicate n.places.length (-1)).set from_ 0, List.replicate n.places.length (-1)⟩ := rfl
  rw [hs0] at i0 hR
  have kk := keep (And.intro h (And.intro ha (And.intro i0 (And.intro hR hRi))))
  clear hs0 i0 hR hRi ha
  unfold aNet cNet
  refine realcall_intro Try.func32 (by kernel_rfl) rfl (Nat.le_of_ble_eq_true (by kernel_rfl)) ?_
  simp only [Try.results32, Try.ntmps32]
  repeat' (first | (with_reducible first | refine awp_seq ?_ | refine awp_blockS ?_ | refine awp_blockC ?_ | refine awp_blockR ?_ | refine awp_skip ?_ | refine awp_ret ?_ | refine awp_exit ?_ | refine awp_region ?_ | refine awp_regionD (id := 14) 9 mixed (by decide +kernel) ?_ | refine awp_condM ?_ | refine And.intro ?_ ?_ | refine gE_splitN ?_ ?_ | refine gE_split ?_ ?_ | refine gQ_splitN ?_ ?_ | refine gQ_split ?_ ?_ | refine gM_splitN ?_ ?_ | refine gM_split ?_ ?_ | refine condM_splitDN ?_ ?_ | refine condM_splitD ?_ ?_ | refine condM_splitN ?_ ?_ | refine condM_split ?_ ?_ | refine condM_any ?_ ?_ | intro _) | (simp [*]))
  all_goals try omega
  refine awp_for4 2 (fun (k : Nat) => k ≤ n.places.length) [1, 2] (fun (k : Nat) => [(5, .msl 1 k 1 0 k), (6, .w false false (.int .i64 k))]) [0] (fun (k : Nat) => [(1, iA (List.replicate k (-1)))]) (fun (k : Nat) => n.places.length - k) (fun (_u : Unit) => True) [1, 2] (fun (_u : Unit) => [(5, .msl 1 n.places.length 1 0 n.places.length)]) [0] (fun (_u : Unit) => [(1, iA (List.replicate n.places.length (-1)))]) (0) (Nat.zero_le _) (le_gen [] (by simp) (by simp)) (fun k hk => ?_) (fun _u hf => ?_)
  · by_cases hlt : k < n.places.length
    · have hset : List.replicate k (-1 : Int) ++ [-1] = List.replicate (k + 1) (-1) := List.replicate_succ'.symm
      repeat' (first | (with_reducible first | refine awp_seq ?_ | refine awp_blockS ?_ | refine awp_blockC ?_ | refine awp_blockR ?_ | refine awp_skip ?_ | refine awp_ret ?_ | refine awp_exit ?_ | refine awp_region ?_ | refine awp_regionD (id := 14) 9 mixed (by decide +kernel) ?_ | refine awp_condM ?_ | refine And.intro ?_ ?_ | refine gE_splitN ?_ ?_ | refine gE_split ?_ ?_ | refine gQ_splitN ?_ ?_ | refine gQ_split ?_ ?_ | refine gM_splitN ?_ ?_ | refine gM_split ?_ ?_ | refine condM_splitDN ?_ ?_ | refine condM_splitD ?_ ?_ | refine condM_splitN ?_ ?_ | refine condM_split ?_ ?_ | refine condM_any ?_ ?_ | intro _) | (simp [*, hlt]))
      all_goals first
        | exact inI64 (by omega) (by omega)
        | omega
        | (refine loopK_normal _ _ _ _ _ (k + 1) _ ?_ (by first | omega | (dsimp only; omega) | (simp; omega)) ?_; (· omega); (refine le_of ?_ ?_ <;> first | trivial | (simp [*, hset]; done)))
        | skip
    · have hke : k = n.places.length := by omega
      subst hke
      repeat' (first | (with_reducible first | refine awp_seq ?_ | refine awp_blockS ?_ | refine awp_blockC ?_ | refine awp_blockR ?_ | refine awp_skip ?_ | refine awp_ret ?_ | refine awp_exit ?_ | refine awp_region ?_ | refine awp_regionD (id := 14) 9 mixed (by decide +kernel) ?_ | refine awp_condM ?_ | refine And.intro ?_ ?_ | refine gE_splitN ?_ ?_ | refine gE_split ?_ ?_ | refine gQ_splitN ?_ ?_ | refine gQ_split ?_ ?_ | refine gM_splitN ?_ ?_ | refine gM_split ?_ ?_ | refine condM_splitDN ?_ ?_ | refine condM_splitD ?_ ?_ | refine condM_splitN ?_ ?_ | refine condM_split ?_ ?_ | refine condM_any ?_ ?_ | intro _) | (simp [*]))
      (refine finW_intro () ?_ ?_; (· trivial); (refine le_of ?_ ?_ <;> first | trivial | (simp [*]; done)))
  · repeat' (first | (with_reducible first | refine awp_seq ?_ | refine awp_blockS ?_ | refine awp_blockC ?_ | refine awp_blockR ?_ | refine awp_skip ?_ | refine awp_ret ?_ | refine awp_exit ?_ | refine awp_region ?_ | refine awp_regionD (id := 14) 9 mixed (by decide +kernel) ?_ | refine awp_condM ?_ | refine And.intro ?_ ?_ | refine gE_splitN ?_ ?_ | refine gE_split ?_ ?_ | refine gQ_splitN ?_ ?_ | refine gQ_split ?_ ?_ | refine gM_splitN ?_ ?_ | refine gM_split ?_ ?_ | refine condM_splitDN ?_ ?_ | refine condM_splitD ?_ ?_ | refine condM_splitN ?_ ?_ | refine condM_split ?_ ?_ | refine condM_any ?_ ?_ | intro _) | (simp [*, hfr]))
    all_goals try omega
    obtain ⟨h, ha, i0, hR, hRi⟩ := kk
    generalize (List.replicate n.places.length (-1 : Int)).set from_ 0 = l0 at *
    generalize List.replicate n.places.length (-1 : Int) = b0 at *
    have kR := keep hRi
    clear hRi
    refine awp_for4 2 (fun (x : GS × Bool) => Inv n x.1 ∧ (if x.2 = true then growF fLen n.roads (mu x.1 + 1) x.1 else x.1) = R) [2, 5] (fun (x : GS × Bool) => [(7, .w false false (.bool x.2))]) [0] (fun (x : GS × Bool) => [(1, iA x.1.l)]) (fun (x : GS × Bool) => 2 * mu x.1 + (if x.2 = true then 1 else 0)) (fun (_u : Unit) => True) [5] (fun (_u : Unit) => []) [0] (fun (_u : Unit) => [(1, iA R.l)]) (((⟨l0, b0⟩ : GS), true)) ⟨i0, hR⟩ (le_gen [] (by simp) (by simp)) (fun x hk => ?_) (fun _u hf => ?_)
    · obtain ⟨s, c⟩ := x
      obtain ⟨hi, hj⟩ := hk
      dsimp only at hi hj ⊢
      cases c with
      | false =>
        simp only [Bool.false_eq_true, if_false] at hj
        subst hj
        repeat' (first | (with_reducible first | refine awp_seq ?_ | refine awp_blockS ?_ | refine awp_blockC ?_ | refine awp_blockR ?_ | refine awp_skip ?_ | refine awp_ret ?_ | refine awp_exit ?_ | refine awp_region ?_ | refine awp_regionD (id := 14) 9 mixed (by decide +kernel) ?_ | refine awp_condM ?_ | refine And.intro ?_ ?_ | refine gE_splitN ?_ ?_ | refine gE_split ?_ ?_ | refine gQ_splitN ?_ ?_ | refine gQ_split ?_ ?_ | refine gM_splitN ?_ ?_ | refine gM_split ?_ ?_ | refine condM_splitDN ?_ ?_ | refine condM_splitD ?_ ?_ | refine condM_splitN ?_ ?_ | refine condM_split ?_ ?_ | refine condM_any ?_ ?_ | intro _) | (simp [*]))
        (refine finW_intro () ?_ ?_; (· trivial); (refine le_of ?_ ?_ <;> first | trivial | (simp [*]; done)))
      | true =>
        simp only [if_true] at hj
        obtain ⟨r1, r2, r3, r4⟩ := runR_inv h ha n.roads.length 0 s false hi (by omega)
        have hg : growF fLen n.roads (mu s + 1) s = if (runR fLen n.roads n.roads.length 0 s false).2 = true then growF fLen n.roads (mu s) (runR fLen n.roads n.roads.length 0 s false).1 else (runR fLen n.roads n.roads.length 0 s false).1 := rfl
        rw [hg] at hj
        have hfu := growF_fuel h ha (mu s) _ r1
        generalize hRR : runR fLen n.roads n.roads.length 0 s false = RR at *
        have kk := keep (And.intro r1 (And.intro r2 (And.intro r3 (And.intro r4 (And.intro hj hfu)))))
        clear hg r1 r2 r3 r4 hj hfu
        repeat' (first | (with_reducible first | refine awp_seq ?_ | refine awp_blockS ?_ | refine awp_blockC ?_ | refine awp_blockR ?_ | refine awp_skip ?_ | refine awp_ret ?_ | refine awp_exit ?_ | refine awp_region ?_ | refine awp_regionD (id := 14) 9 mixed (by decide +kernel) ?_ | refine awp_condM ?_ | refine And.intro ?_ ?_ | refine gE_splitN ?_ ?_ | refine gE_split ?_ ?_ | refine gQ_splitN ?_ ?_ | refine gQ_split ?_ ?_ | refine gM_splitN ?_ ?_ | refine gM_split ?_ ?_ | refine condM_splitDN ?_ ?_ | refine condM_splitD ?_ ?_ | refine condM_splitN ?_ ?_ | refine condM_split ?_ ?_ | refine condM_any ?_ ?_ | intro _) | (simp [*]))
        refine awp_for4 2 (fun (y : Nat × GS × Bool) => y.1 ≤ n.roads.length ∧ Inv n y.2.1 ∧ runR fLen n.roads (n.roads.length - y.1) y.1 y.2.1 y.2.2 = RR) [2, 5] (fun (y : Nat × GS × Bool) => [(7, .w false false (.bool y.2.2)), (8, .w false false (.int .i64 y.1))]) [0] (fun (y : Nat × GS × Bool) => [(1, iA y.2.1.l)]) (fun (y : Nat × GS × Bool) => n.roads.length - y.1) (fun (_u : Unit) => True) [2, 5] (fun (_u : Unit) => [(7, .w false false (.bool RR.2))]) [0] (fun (_u : Unit) => [(1, iA RR.1.l)]) (((0 : Nat), s, false)) ⟨Nat.zero_le _, hi, hRR⟩ (le_gen [] (by simp) (by simp)) (fun y hk => ?_) (fun _u hf => ?_)
        · obtain ⟨k, s, c⟩ := y
          obtain ⟨hk, hi, hj⟩ := hk
          dsimp only at hk hi hj ⊢
          by_cases hlt : k < n.roads.length
          · rw [runR_step hlt] at hj
            have hri := relax_inv h ha hi hlt
            have hok := h.road k hlt
            have f1 := hok.frm
            have f2 := hok.to
            have hmet := hok.met
            have hll := hi.ll
            have hs1 := hi.small h (i := (nth n.roads k).frm.toNat) (by omega)
            generalize hr : nth n.roads k = r at *
            have t1 : r.frm.toNat < n.places.length := by omega
            have t2 : r.to.toNat < n.places.length := by omega
            by_cases ha1 : nth s.l r.frm.toNat = -1
            · have hrel : relax fLen r k s = (s, false) := if_pos ha1
              rw [hrel, Bool.or_false] at hj
              have kj := keep (And.intro hi hj)
              clear hj hri hi hrel hs1 hok hRR
              repeat' (first | (with_reducible first | refine awp_seq ?_ | refine awp_blockS ?_ | refine awp_blockC ?_ | refine awp_blockR ?_ | refine awp_skip ?_ | refine awp_ret ?_ | refine awp_exit ?_ | refine awp_region ?_ | refine awp_regionD (id := 14) 9 mixed (by decide +kernel) ?_ | refine awp_condM ?_ | refine And.intro ?_ ?_ | refine gE_splitN ?_ ?_ | refine gE_split ?_ ?_ | refine gQ_splitN ?_ ?_ | refine gQ_split ?_ ?_ | refine gM_splitN ?_ ?_ | refine gM_split ?_ ?_ | refine condM_splitDN ?_ ?_ | refine condM_splitD ?_ ?_ | refine condM_splitN ?_ ?_ | refine condM_split ?_ ?_ | refine condM_any ?_ ?_ | intro _) | (simp [*, hlt, hr, cRoad, t1, t2, hll, ha1]))
              all_goals first
                | exact inI64 (by omega) (by omega)
                | omega
                | (refine loopK_normal _ _ _ _ _ (k + 1, s, c) _ ?_ (by first | omega | (dsimp only; omega) | (simp; omega)) ?_; (· exact ⟨by dsimp only; omega, kj.1, kj.2⟩); (refine le_of ?_ ?_ <;> first | trivial | (simp [*]; done)))
                | skip
            · have hsm : 0 ≤ nth s.l r.frm.toNat ∧ nth s.l r.frm.toNat ≤ 5000000 := by
                rcases hs1 with h | h
                · exact absurd h ha1
                · exact h
              have hrel0 : relax fLen r k s = if nth s.l r.to.toNat = -1 ∨ nth s.l r.frm.toNat + r.metres < nth s.l r.to.toNat then (⟨s.l.set r.to.toNat (nth s.l r.frm.toNat + r.metres), s.b.set r.to.toNat k⟩, true) else (s, false) := if_neg ha1
              have hf : 0 ≤ nth s.l r.frm.toNat := by omega
              have hto : nth s.l r.to.toNat < 0 ↔ nth s.l r.to.toNat = -1 := by
                rcases hi.small h (i := r.to.toNat) t2 with h | h <;> omega
              clear hs1 hok hRR
              clear h ha kk
              by_cases hb : nth s.l r.to.toNat = -1 ∨ nth s.l r.frm.toNat + r.metres < nth s.l r.to.toNat
              · rw [if_pos hb] at hrel0
                rw [hrel0] at hj hri
                rw [Bool.or_true] at hj
                have kj := keep (And.intro hri.1 hj)
                clear hj hri hi hrel0 hto
                by_cases hb1 : nth s.l r.to.toNat = -1
                · clear hb
                  repeat' (first | (with_reducible first | refine awp_seq ?_ | refine awp_blockS ?_ | refine awp_blockC ?_ | refine awp_blockR ?_ | refine awp_skip ?_ | refine awp_ret ?_ | refine awp_exit ?_ | refine awp_region ?_ | refine awp_regionD (id := 14) 9 mixed (by decide +kernel) ?_ | refine awp_condM ?_ | refine And.intro ?_ ?_ | refine gE_splitN ?_ ?_ | refine gE_split ?_ ?_ | refine gQ_splitN ?_ ?_ | refine gQ_split ?_ ?_ | refine gM_splitN ?_ ?_ | refine gM_split ?_ ?_ | refine condM_splitDN ?_ ?_ | refine condM_splitD ?_ ?_ | refine condM_splitN ?_ ?_ | refine condM_split ?_ ?_ | refine condM_any ?_ ?_ | intro _) | (simp [*, hlt, hr, cRoad, t1, t2, hll, hb1, hf]))
                  all_goals first
                    | exact inI64 (by omega) (by omega)
                    | omega
                    | (refine loopK_normal _ _ _ _ _ (k + 1, ⟨s.l.set r.to.toNat (nth s.l r.frm.toNat + r.metres), s.b.set r.to.toNat k⟩, true) _ ?_ (by first | omega | (dsimp only; omega) | (simp; omega)) ?_; (· exact ⟨by dsimp only; omega, kj.1, kj.2⟩); (refine le_of ?_ ?_ <;> first | trivial | (simp [*]; done)))
                    | skip
                · have hb2 : nth s.l r.frm.toNat + r.metres < nth s.l r.to.toNat := hb.resolve_left hb1
                  have hb3 : ¬ nth s.l r.to.toNat < 0 := by omega
                  clear hb
                  repeat' (first | (with_reducible first | refine awp_seq ?_ | refine awp_blockS ?_ | refine awp_blockC ?_ | refine awp_blockR ?_ | refine awp_skip ?_ | refine awp_ret ?_ | refine awp_exit ?_ | refine awp_region ?_ | refine awp_regionD (id := 14) 9 mixed (by decide +kernel) ?_ | refine awp_condM ?_ | refine And.intro ?_ ?_ | refine gE_splitN ?_ ?_ | refine gE_split ?_ ?_ | refine gQ_splitN ?_ ?_ | refine gQ_split ?_ ?_ | refine gM_splitN ?_ ?_ | refine gM_split ?_ ?_ | refine condM_splitDN ?_ ?_ | refine condM_splitD ?_ ?_ | refine condM_splitN ?_ ?_ | refine condM_split ?_ ?_ | refine condM_any ?_ ?_ | intro _) | (simp [*, hlt, hr, cRoad, t1, t2, hll, hb2, hb3, hf]))
                  all_goals first
                    | exact inI64 (by omega) (by omega)
                    | omega
                    | (refine loopK_normal _ _ _ _ _ (k + 1, ⟨s.l.set r.to.toNat (nth s.l r.frm.toNat + r.metres), s.b.set r.to.toNat k⟩, true) _ ?_ (by first | omega | (dsimp only; omega) | (simp; omega)) ?_; (· exact ⟨by dsimp only; omega, kj.1, kj.2⟩); (refine le_of ?_ ?_ <;> first | trivial | (simp [*]; done)))
                    | skip
              · rw [if_neg hb] at hrel0
                rw [hrel0] at hj hri
                rw [Bool.or_false] at hj
                have kj := keep (And.intro hi hj)
                have hb1 : ¬ nth s.l r.to.toNat < 0 := fun h => hb (.inl (hto.1 h))
                have hb2 : ¬ nth s.l r.frm.toNat + r.metres < nth s.l r.to.toNat := fun h => hb (.inr h)
                clear hj hri hi hrel0 hb hto
                repeat' (first | (with_reducible first | refine awp_seq ?_ | refine awp_blockS ?_ | refine awp_blockC ?_ | refine awp_blockR ?_ | refine awp_skip ?_ | refine awp_ret ?_ | refine awp_exit ?_ | refine awp_region ?_ | refine awp_regionD (id := 14) 9 mixed (by decide +kernel) ?_ | refine awp_condM ?_ | refine And.intro ?_ ?_ | refine gE_splitN ?_ ?_ | refine gE_split ?_ ?_ | refine gQ_splitN ?_ ?_ | refine gQ_split ?_ ?_ | refine gM_splitN ?_ ?_ | refine gM_split ?_ ?_ | refine condM_splitDN ?_ ?_ | refine condM_splitD ?_ ?_ | refine condM_splitN ?_ ?_ | refine condM_split ?_ ?_ | refine condM_any ?_ ?_ | intro _) | (simp [*, hlt, hr, cRoad, t1, t2, hll, hb1, hb2, hf]))
                all_goals first
                  | exact inI64 (by omega) (by omega)
                  | omega
                  | (refine loopK_normal _ _ _ _ _ (k + 1, s, c) _ ?_ (by first | omega | (dsimp only; omega) | (simp; omega)) ?_; (· exact ⟨by dsimp only; omega, kj.1, kj.2⟩); (refine le_of ?_ ?_ <;> first | trivial | (simp [*]; done)))
                  | skip
          · have hke : k = n.roads.length := by omega
            subst hke
            rw [Nat.sub_self] at hj
            have hj : (s, c) = RR := hj
            subst hj
            repeat' (first | (with_reducible first | refine awp_seq ?_ | refine awp_blockS ?_ | refine awp_blockC ?_ | refine awp_blockR ?_ | refine awp_skip ?_ | refine awp_ret ?_ | refine awp_exit ?_ | refine awp_region ?_ | refine awp_regionD (id := 14) 9 mixed (by decide +kernel) ?_ | refine awp_condM ?_ | refine And.intro ?_ ?_ | refine gE_splitN ?_ ?_ | refine gE_split ?_ ?_ | refine gQ_splitN ?_ ?_ | refine gQ_split ?_ ?_ | refine gM_splitN ?_ ?_ | refine gM_split ?_ ?_ | refine condM_splitDN ?_ ?_ | refine condM_splitD ?_ ?_ | refine condM_splitN ?_ ?_ | refine condM_split ?_ ?_ | refine condM_any ?_ ?_ | intro _) | (simp [*]))
            (refine finW_intro () ?_ ?_; (· trivial); (refine le_of ?_ ?_ <;> first | trivial | (simp [*]; done)))
        · obtain ⟨r1, r2, r3, r4, hj, hfu⟩ := kk
          clear hRR
          obtain ⟨s', c'⟩ := RR
          dsimp only at r1 r2 r3 r4 hj hfu ⊢
          cases c' with
          | true =>
            have hlt := r4 rfl rfl
            rw [if_pos rfl, hfu hlt] at hj
            have kj := keep (And.intro r1 hj)
            clear hfu hj r3 r4
            repeat' (first | (with_reducible first | refine awp_seq ?_ | refine awp_blockS ?_ | refine awp_blockC ?_ | refine awp_blockR ?_ | refine awp_skip ?_ | refine awp_ret ?_ | refine awp_exit ?_ | refine awp_region ?_ | refine awp_regionD (id := 14) 9 mixed (by decide +kernel) ?_ | refine awp_condM ?_ | refine And.intro ?_ ?_ | refine gE_splitN ?_ ?_ | refine gE_split ?_ ?_ | refine gQ_splitN ?_ ?_ | refine gQ_split ?_ ?_ | refine gM_splitN ?_ ?_ | refine gM_split ?_ ?_ | refine condM_splitDN ?_ ?_ | refine condM_splitD ?_ ?_ | refine condM_splitN ?_ ?_ | refine condM_split ?_ ?_ | refine condM_any ?_ ?_ | intro _) | (simp [*]))
            (refine loopK_normal _ _ _ _ _ (s', true) _ ?_ (by first | omega | (dsimp only; omega) | (simp; omega)) ?_; (· exact ⟨kj.1, kj.2⟩); (refine le_of ?_ ?_ <;> first | trivial | (simp [*]; done)))
          | false =>
            have he := (r3 rfl).1
            rw [if_neg (by decide)] at hj
            have kj := keep (And.intro r1 hj)
            have hmu : mu s' = mu s := by rw [he]
            clear hfu hj r3 r4 he
            repeat' (first | (with_reducible first | refine awp_seq ?_ | refine awp_blockS ?_ | refine awp_blockC ?_ | refine awp_blockR ?_ | refine awp_skip ?_ | refine awp_ret ?_ | refine awp_exit ?_ | refine awp_region ?_ | refine awp_regionD (id := 14) 9 mixed (by decide +kernel) ?_ | refine awp_condM ?_ | refine And.intro ?_ ?_ | refine gE_splitN ?_ ?_ | refine gE_split ?_ ?_ | refine gQ_splitN ?_ ?_ | refine gQ_split ?_ ?_ | refine gM_splitN ?_ ?_ | refine gM_split ?_ ?_ | refine condM_splitDN ?_ ?_ | refine condM_splitD ?_ ?_ | refine condM_splitN ?_ ?_ | refine condM_split ?_ ?_ | refine condM_any ?_ ?_ | intro _) | (simp [*]))
            (refine loopK_normal _ _ _ _ _ (s', false) _ ?_ (by first | omega | (dsimp only; omega) | (simp; omega)) ?_; (· exact ⟨kj.1, kj.2⟩); (refine le_of ?_ ?_ <;> first | trivial | (simp [*]; done)))
    · have hRl := kR.ll
      repeat' (first | (with_reducible first | refine awp_seq ?_ | refine awp_blockS ?_ | refine awp_blockC ?_ | refine awp_blockR ?_ | refine awp_skip ?_ | refine awp_ret ?_ | refine awp_exit ?_ | refine awp_region ?_ | refine awp_regionD (id := 14) 9 mixed (by decide +kernel) ?_ | refine awp_condM ?_ | refine And.intro ?_ ?_ | refine gE_splitN ?_ ?_ | refine gE_split ?_ ?_ | refine gQ_splitN ?_ ?_ | refine gQ_split ?_ ?_ | refine gM_splitN ?_ ?_ | refine gM_split ?_ ?_ | refine condM_splitDN ?_ ?_ | refine condM_splitD ?_ ?_ | refine condM_splitN ?_ ?_ | refine condM_split ?_ ?_ | refine condM_any ?_ ?_ | intro _) | (simp [*, hRl]))
end Go.Proofs.Ytmkahgnfoefnjaa
namespace Go.Proofs.Ytmkahgnfoefnjaa
open Go Go.Fi

/-- whether something is so of one from a number on -/
def anyD {α : Type} (p : α → Bool) (l : List α) (k : Nat) : Bool := (l.drop k).any p
theorem anyD_step {α : Type} [Inhabited α] (p : α → Bool) (l : List α) (k : Nat) (h : k < l.length) : anyD p l k = (p (nth l k) || anyD p l (k + 1)) := by
  unfold anyD
  rw [List.drop_eq_getElem_cons h, List.any_cons]
  congr 2
  simp [nth, List.getD_eq_getElem?_getD, List.getElem?_eq_getElem h]
theorem anyD_end {α : Type} (p : α → Bool) (l : List α) : anyD p l l.length = false := by unfold anyD; rw [List.drop_length]; rfl
theorem anyD_no {α : Type} [Inhabited α] {p : α → Bool} {l : List α} (h : anyD p l 0 = false) : ∀ k, k < l.length → p (nth l k) = false := by
  intro k hk
  have h : l.any p = false := h
  rw [List.any_eq_false] at h
  have := h l[k] (List.getElem_mem hk)
  have e : nth l k = l[k] := by simp [nth, List.getD_eq_getElem?_getD, List.getElem?_eq_getElem hk]
  rw [e]
  cases hp : p l[k] with
  | false => rfl
  | true => exact absurd hp this
theorem anyD_all {α : Type} [Inhabited α] {p : α → Bool} {l : List α} (h : ∀ k, k < l.length → p (nth l k) = false) : ∀ m k, l.length - k = m → k ≤ l.length → anyD p l k = false
  | 0, k, hm, hk => by have : k = l.length := by omega
                       subst this; exact anyD_end p l
  | m + 1, k, hm, hk => by
    rw [anyD_step p l k (by omega), h k (by omega), Bool.false_or]
    exact anyD_all h m (k + 1) (by omega) (by omega)
def badN (t : Int) : Bool := !winB t (-1) 1000000000000000
def cLs (ls : List (List Int)) : List PV := ls.map fun l => .sl l.length (ints l)
@[simp] theorem cLs_len (l : List (List Int)) : (cLs l).length = l.length := by simp [cLs]
@[simp] theorem cLs_get (l : List (List Int)) (k : Nat) (h : k < l.length) : nthP (cLs l) k = .sl (nth l k).length (ints (nth l k)) := nthP_map _ l k h
def badL (n : Net) (l : List Int) : Bool := decide (l.length ≠ n.places.length)
def badA (l : List Int) : Bool := anyD badN l 0
def lblE (n : Net) (ls : List (List Int)) : Int := if anyD (badL n) ls 0 = true then 10 else if anyD badA ls 0 = true then 2 else 0
def badR (f : Road → Int → Int) (l : List Int) (r : Road) : Bool := !decide (nth l r.frm.toNat = -1) && (decide (nth l r.to.toNat = -1) || decide (f r (nth l r.frm.toNat) < nth l r.to.toNat))
end Go.Proofs.Ytmkahgnfoefnjaa
