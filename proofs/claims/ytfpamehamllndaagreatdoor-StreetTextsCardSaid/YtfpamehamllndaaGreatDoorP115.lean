/- Contracts of functions for this claim: lemmas alone. -/
import Derived.Test.YtfpamehamllndaaGreatDoorP108
import Derived.Test.YtfpamehamllndaaGreatDoorLac
set_option linter.unusedSimpArgs false
set_option linter.unusedVariables false
namespace Go.Proofs.YtfpamehamllndaaGreatDoor
open Go Go.Fi Go.RowKit Go.Shelf
set_option maxRecDepth 20000

/-! ### the reference reads a line, on the places of the net -/
abbrev nilA : AV := .w true true (.sl 0 [])
def netHA (d : Dr) (A : List Int) : Heap := [(1, [.msl 3 d.places.length 1 0 d.places.length, .msl 4 (d.roads.length * 5) 5 0 d.roads.length]), (2, [.msl 5 (d.ends.length * 2) 2 0 d.ends.length]), (3, stA d.places), (4, rdC d.roads), (5, enA d.ends), (6, iA A), (0, [nilA, nilA])] ++ ptH d.roads
def newH (d : Dr) (A : List Int) (x y z : ByteArray) (v : Int) : Heap := [(1, [.msl 3 d.places.length 1 0 d.places.length, .msl 4 (d.roads.length * 5 + 5) 5 0 (d.roads.length + 1)]), (2, [.msl 5 (d.ends.length * 2 + 2) 2 0 (d.ends.length + 1)]), (3, stA d.places), (4, rdC d.roads ++ neR x v), (5, enA d.ends ++ [.w false false (.str y), .w false false (.str z)]), (6, iA A), (0, [nilA, nilA])] ++ ptH d.roads
def badH : Heap := [(0, [nilA, nilA])]
@[simp] theorem rdC_len (l : List Road) : (rdC l).length = l.length * 5 := by
  rcases List.eq_nil_or_concat l with rfl | ⟨t, r, rfl⟩
  · rfl
  · rw [List.concat_eq_append, rdC_snoc]; simp; omega
theorem stA_app (a : List ByteArray) (x : ByteArray) : stA (a ++ [x]) = stA a ++ [.w false false (.str x)] := (stA_snoc a x).symm
def arN (w : List ByteArray) (k : Nat) : List AV := [.w false false (.int .i64 (if 0 < k then numV (nth w 1) else 0)), .w false false (.int .i64 (if 1 < k then numV (nth w 2) else 0)), .w false false (.int .i64 (if 2 < k then numV (nth w 3) else 0))]
@[simp] theorem arN_len (w : List ByteArray) (k : Nat) : (arN w k).length = 3 := rfl
theorem arN_set (w : List ByteArray) (k : Nat) (h : k < 3) (D : List Nat) (H : Heap) (n n' : Nat) (o f : Bool) : cellsLe D H n n' ((arN w k).set k (.w o f (.int .i64 (numV (nth w (k + 1)))))) (arN w (k + 1)) := by
  match k, h with
  | 0, _ => simp [arN]
  | 1, _ => simp [arN]
  | 2, _ => simp [arN]
@[simp] theorem arN_self {D : List Nat} {h : Heap} {n n' : Nat} (w : List ByteArray) (k : Nat) : cellsLe D h n n' (arN w k) (arN w k) = True := eq_true (cellsLe_refl rfl)
@[simp] theorem arN_lt (w : List ByteArray) (k n : Nat) : AV.lt.ltL n (arN w k) = true := rfl
theorem laR_lt (r : Road) (n : Nat) (h : 7 < n) : AV.lt.ltL n (laR r) = true := by simp [laR, AV.lt.ltL, AV.lt, h]
@[simp] theorem laR_self {D : List Nat} {h : Heap} {n n' : Nat} (r : Road) (hn : 7 < n') : cellsLe D h n n' (laR r) (laR r) = True := eq_true (cellsLe_refl (laR_lt r n' hn))
theorem rd_get (l : List Road) (r : Road) : nthA (roA l ++ laR r) (l.length * 5 + 4) = .msl 7 (r.pts.length * 3) 3 0 r.pts.length := by
  unfold nthA
  rw [List.getD_eq_getElem?_getD, List.getElem?_append_right (by simp)]
  simp [laR]
theorem rd_set (l : List Road) (r : Road) (x : AV) : (roA l ++ laR r).set (l.length * 5 + 4) x = roA l ++ [.w false false (.str r.name), .w false false (.int .i64 r.frm), .w false false (.int .i64 r.to), .w false false (.int .i64 r.metres), x] := by
  rw [List.set_append_right _ _ (by simp)]
  simp [laR]
theorem addP_snoc (l : List Road) (r : Road) (p : Pt) : addP (l ++ [r]) p = l ++ [{ r with pts := r.pts ++ [p] }] := by simp [addP, List.getLastD_eq_getLast?]
structure StopAt (p : Prop) : Prop where
  out : p
@[congr] theorem StopAt_congr {p : Prop} : StopAt p = StopAt p := rfl
theorem stop_at {fk : Fk} {P : Program} {id : Nat} {ops : Array Oper} {b : Bool} {st : St} {K : Exit → St → Prop} (h : StopAt (AWPk fk P (.region id ops b) st K)) : AWPk fk P (.region id ops b) st K := h.out
structure RLineIn (d : Dr) (w : List ByteArray) : Prop where
  wl : w.length < 1000
  wp : 1 ≤ w.length
  ws : ∀ j, j < w.length → (nth w j).size < 1000
  np : d.places.length < 1000
  nr : d.roads.length < 1000
  ne : d.ends.length < 1000
  pt : ∀ r ∈ d.roads, r.pts.length < 1000

set_option maxHeartbeats 8000000 in
theorem rLine_w (d : Dr) (k : Int) (A : List Int) (o f : Bool) (s : ByteArray) (hs : s.size < 1000000) (hin : RLineIn d (pieces s sp1)) (K : AV → Heap → Nat → Prop)
    (h1 : ∀ d', lineD d k (pieces s sp1) = some d' → d'.at_ = d.at_ → d'.ends = d.ends → d'.roads.length = d.roads.length → nxR d'.roads = nxR d.roads → K (.w false false (.bool true)) (netHA d' A) (nxR d.roads))
    (h2 : ∀ x y z v, lineD d k (pieces s sp1) = some { d with roads := d.roads ++ [⟨x, 0, 0, v, []⟩], ends := d.ends ++ [(y, z)], at_ := d.at_ ++ [k] } → K (.w false false (.bool true)) (newH d A x y z v) (nxR d.roads))
    (h3 : lineD d k (pieces s sp1) = none → K (.w false false (.bool false)) (netHA d A) (nxR d.roads))
    (h4 : lineD d k (pieces s sp1) = none → K (.w false false (.bool false)) badH (nxR d.roads)) :
    AWPk ⟨nxR d.roads, none⟩ Tryz.prog (Tryz.f29.body.getD .skip) ⟨envA 0 [.ptr 1 2 0, .ptr 2 1 0, .w o f (.str s)], netHA d A, nxR d.roads, Tryz.f29.ntmps⟩ (inlK Tryz.prog Tryz.f29.results.toList K) := by
  have c1 : RealCall Tryz.prog 28 [.str s, .int .u8 32] (.sl (pieces s sp1).length (strP (pieces s sp1))) true := rCut_c s 32 hs
  generalize pieces s sp1 = w at *
  have c2 := rHasN_c w hin.wl
  rw [lineD_eq d k w hin.wp] at h1 h2 h3 h4
  obtain ⟨wl, wp, ws, np, nr, ne, pt⟩ := hin
  have wpI : (0 : Int) < (w.length : Int) := by omega
  have wp0 : 0 < w.length := wp
  have hb : Tryz.f29.body = some _ := rfl
  rw [hb]
  clear hb
  simp only [Option.getD_some, Tryz.ntmps29, Tryz.results29]
  unfold netHA newH at *
  obtain ⟨places, roads, ends, at_⟩ := d
  dsimp only at *
  rcases List.eq_nil_or_concat roads with hr | ⟨l, r, hr⟩
  · subst hr
    simp only [ptH_nil, nxR_nil, rdC_nil, List.append_nil, List.nil_append, List.length_nil] at *
    by_cases hn : noneB w = true
    · rw [if_pos hn] at h3
      have kh3 := keep (h3 rfl)
      clear h1 h2 h3 h4
      rw [hn] at c2
      repeat' (first | (with_reducible first | refine awp_seq ?_ | refine awp_ret ?_ | refine awp_region ?_ | refine awp_condM ?_ | refine And.intro ?_ ?_ | exact EqV_w | exact EqE_w | exact EqV_fn | exact EqE_fn | exact EqV_gd | exact EqE_gd | refine cw (c1) ?_ | refine cw (c2) ?_ | intro _) | (simp [*]) | (refine cw_eq (c1) ?_ ?_; (· (simp [*]; done))) | (refine cw_eq (c2) ?_ ?_; (· (simp [*]; done))))
      all_goals simp [RetA, resL, resA, oneOf]
      all_goals exact kh3
    have hn' : noneB w = false := by simpa using hn
    rw [hn'] at c2
    rw [if_neg hn] at h1 h2 h3 h4
    by_cases hp : nth w 0 = wPlace
    · rw [if_pos hp] at h1 h2 h3 h4
      by_cases hl : w.length = 2
      · have hlI : (w.length : Int) = 2 := by omega
        have hl1 : 1 < w.length := by omega
        rw [if_pos ⟨hl, trivial⟩] at h1
        have g1 := h1 _ rfl rfl rfl rfl rfl
        simp only [ptH_nil, rdC_nil, List.append_nil, List.nil_append, List.length_nil, List.length_append, List.length_cons, Nat.zero_add, Nat.zero_mul] at g1
        have kh1 := keep g1
        clear g1 h1 h2 h3 h4 hl hn hn'
        repeat' (first | (with_reducible first | refine stop_at (id := 8) ?_ | refine awp_seq ?_ | refine awp_skip ?_ | refine awp_region ?_ | refine awp_regionS (id := 7) [0, 1, 2, 3, 4, 5, 6, 7, 8] [9, 10, 11, 12] [[.fld 0 25 0], [], [], [], [], [], [], [], []] [[.fld 0 25 0], [], [], [.slot 0]] mixed (by decide +kernel) ?_ | refine awp_condM ?_ | refine And.intro ?_ ?_ | exact EqV_w | exact EqE_w | exact EqV_fn | exact EqE_fn | exact EqV_gd | exact EqE_gd | refine cw (c1) ?_ | refine cw (c2) ?_ | intro _) | (simp [*, hp, hlI, hl1]) | (refine cw_eq (c1) ?_ ?_; (· (simp [*]; done))) | (refine cw_eq (c2) ?_ ?_; (· (simp [*]; done))))
        all_goals try first | exact inI64 (by omega) (by omega) | omega
        refine ⟨awp_le (st' := ⟨[], [(1, [.msl 3 (places.length + 1) 1 0 (places.length + 1), .msl 4 0 5 0 0]), (2, [.msl 5 (ends.length * 2) 2 0 ends.length]), (3, stA (places ++ [nth w 1])), (4, []), (5, enA ends), (6, iA A), (0, [nilA, nilA])], 7, 152⟩) (by refine le_gen [] ?_ ?_ <;> first | trivial | (simp [-stA_snoc, stA_app]; done)) ?_⟩
        repeat' (first | (with_reducible first | refine awp_ret ?_ | refine awp_region ?_ | exact EqV_w | exact EqE_w | exact EqV_fn | exact EqE_fn | exact EqV_gd | exact EqE_gd | intro _) | (simp [*]))
        all_goals simp [RetA, resL, resA, oneOf]
        all_goals exact kh1
      · rw [if_neg (fun e => hl e.1)] at h3
        have kh3 := keep (h3 rfl)
        clear h1 h2 h3 h4 hn hn'
        have hlI : ¬ (w.length : Int) = 2 := by omega
        clear hl
        repeat' (first | (with_reducible first | refine awp_seq ?_ | refine awp_skip ?_ | refine awp_ret ?_ | refine awp_region ?_ | refine awp_condM ?_ | refine And.intro ?_ ?_ | exact EqV_w | exact EqE_w | exact EqV_fn | exact EqE_fn | exact EqV_gd | exact EqE_gd | refine cw (c1) ?_ | refine cw (c2) ?_ | intro _) | (simp [*, hp, hlI]) | (refine cw_eq (c1) ?_ ?_; (· (simp [*]; done))) | (refine cw_eq (c2) ?_ ?_; (· (simp [*]; done))))
        all_goals simp [RetA, resL, resA, oneOf]
        all_goals exact kh3
    rw [if_neg hp] at h1 h2 h3 h4
    by_cases hq : nth w 0 = wRoad
    · rw [if_pos hq] at h1 h2 h3 h4
      by_cases hl : w.length = 5
      · have hlI : (w.length : Int) = 5 := by omega
        have hl1 : 1 < w.length := by omega
        have hl2 : 2 < w.length := by omega
        have hl3 : 3 < w.length := by omega
        have hl4 : 4 < w.length := by omega
        have c3 := rNumber_c (nth w 4) (ws 4 hl4)
        rw [if_pos hl] at h2 h4
        cases hv : numS (nth w 4) with
        | some v =>
          have e1 : numV (nth w 4) = v := by unfold numV; rw [hv]; rfl
          have e2 : numB (nth w 4) = true := by unfold numB; rw [hv]; rfl
          rw [e1, e2] at c3
          rw [hv] at h2
          have g2 := h2 _ _ _ _ rfl
          try simp only [List.cons_append, List.nil_append, List.append_assoc] at g2
          have kh2 := keep g2
          clear g2 h1 h2 h3 h4 hl hn hn' hv e1 e2
          repeat' (first | (with_reducible first | refine stop_at (id := 15) ?_ | refine awp_seq ?_ | refine awp_skip ?_ | refine awp_region ?_ | refine awp_regionS (id := 13) [0, 1, 2, 3, 4, 5, 6, 7, 8, 9, 10] [11, 12, 13, 14] [[.fld 0 25 1], [], [], [], [], [], [], [], [], [], []] [[.fld 0 25 1], [], [], [.slot 0]] mixed (by decide +kernel) ?_ | refine awp_regionS (id := 14) [0, 1, 2, 3, 4, 5, 6, 7, 8, 9, 10, 11] [12, 13, 14] [[.all], [], [], [], [], [], [], [], [], [], [], []] [[.all], [], [.slot 1]] mixed (by decide +kernel) ?_ | refine awp_condM ?_ | refine And.intro ?_ ?_ | exact EqV_w | exact EqE_w | exact EqV_fn | exact EqE_fn | exact EqV_gd | exact EqE_gd | refine cw (c1) ?_ | refine cw (c2) ?_ | refine cw (c3) ?_ | intro _) | (simp [*, hq, hp, hlI, hl1, hl2, hl3, hl4]) | (refine cw_eq (c1) ?_ ?_; (· (simp [*]; done))) | (refine cw_eq (c2) ?_ ?_; (· (simp [*]; done))) | (refine cw_eq (c3) ?_ ?_; (· (simp [*]; done))))
          all_goals try first | exact inI64 (by omega) (by omega) | omega
          refine ⟨awp_le (st' := ⟨[(9, .w false false (.bool true))], [(1, [.msl 3 places.length 1 0 places.length, .msl 4 (0 * 5 + 5) 5 0 (0 + 1)]), (2, [.msl 5 (ends.length * 2 + 2) 2 0 (ends.length + 1)]), (3, stA places), (4, [] ++ neR (nth w 1) v), (5, enA ends ++ [.w false false (.str (nth w 2)), .w false false (.str (nth w 3))]), (6, iA A), (0, [nilA, nilA])], 7, 152⟩) (by refine le_gen [] ?_ ?_ <;> first | trivial | (simp [laR, neR, Nat.add_mul]; done)) ?_⟩
          repeat' (first | (with_reducible first | refine awp_ret ?_ | refine awp_region ?_ | exact EqV_w | exact EqE_w | exact EqV_fn | exact EqE_fn | exact EqV_gd | exact EqE_gd | intro _) | (simp [*]))
          all_goals simp [RetA, resL, resA, oneOf]
          all_goals exact kh2
        | none =>
          have e2 : numB (nth w 4) = false := by unfold numB; rw [hv]; rfl
          rw [e2] at c3
          rw [hv] at h4
          have kh4 := keep (h4 rfl)
          clear h1 h2 h3 h4 hl hn hn' hv e2
          repeat' (first | (with_reducible first | refine stop_at (id := 15) ?_ | refine awp_seq ?_ | refine awp_skip ?_ | refine awp_region ?_ | refine awp_regionS (id := 13) [0, 1, 2, 3, 4, 5, 6, 7, 8, 9, 10] [11, 12, 13, 14] [[.fld 0 25 1], [], [], [], [], [], [], [], [], [], []] [[.fld 0 25 1], [], [], [.slot 0]] mixed (by decide +kernel) ?_ | refine awp_regionS (id := 14) [0, 1, 2, 3, 4, 5, 6, 7, 8, 9, 10, 11] [12, 13, 14] [[.all], [], [], [], [], [], [], [], [], [], [], []] [[.all], [], [.slot 1]] mixed (by decide +kernel) ?_ | refine awp_condM ?_ | refine And.intro ?_ ?_ | exact EqV_w | exact EqE_w | exact EqV_fn | exact EqE_fn | exact EqV_gd | exact EqE_gd | refine cw (c1) ?_ | refine cw (c2) ?_ | refine cw (c3) ?_ | intro _) | (simp [*, hq, hp, hlI, hl1, hl2, hl3, hl4]) | (refine cw_eq (c1) ?_ ?_; (· (simp [*]; done))) | (refine cw_eq (c2) ?_ ?_; (· (simp [*]; done))) | (refine cw_eq (c3) ?_ ?_; (· (simp [*]; done))))
          all_goals try first | exact inI64 (by omega) (by omega) | omega
          refine ⟨awp_le (st' := ⟨[(9, .w false false (.bool false))], badH, 7, 152⟩) (le_of (by simp) (by simp [badH])) ?_⟩
          repeat' (first | (with_reducible first | refine awp_ret ?_ | refine awp_region ?_ | exact EqV_w | exact EqE_w | exact EqV_fn | exact EqE_fn | exact EqV_gd | exact EqE_gd | intro _) | (simp [*]))
          all_goals simp [RetA, resL, resA, oneOf]
          all_goals exact kh4
      · rw [if_neg hl] at h3
        have kh3 := keep (h3 rfl)
        clear h1 h2 h3 h4 hn hn'
        have hlI : ¬ (w.length : Int) = 5 := by omega
        clear hl
        repeat' (first | (with_reducible first | refine awp_seq ?_ | refine awp_skip ?_ | refine awp_ret ?_ | refine awp_region ?_ | refine awp_condM ?_ | refine And.intro ?_ ?_ | exact EqV_w | exact EqE_w | exact EqV_fn | exact EqE_fn | exact EqV_gd | exact EqE_gd | refine cw (c1) ?_ | refine cw (c2) ?_ | intro _) | (simp [*, hq, hp, hlI]) | (refine cw_eq (c1) ?_ ?_; (· (simp [*]; done))) | (refine cw_eq (c2) ?_ ?_; (· (simp [*]; done))))
        all_goals simp [RetA, resL, resA, oneOf]
        all_goals exact kh3
    rw [if_neg hq] at h1 h2 h3 h4
    by_cases ht : nth w 0 = wTime
    · by_cases hl : w.length = 4
      · have hlI : (w.length : Int) = 4 := by omega
        rw [if_neg (fun e => e.2.2 rfl)] at h3
        have kh3 := keep (h3 rfl)
        clear h1 h2 h3 h4 hn hn' hl
        repeat' (first | (with_reducible first | refine awp_seq ?_ | refine awp_skip ?_ | refine awp_ret ?_ | refine awp_region ?_ | refine awp_condM ?_ | refine And.intro ?_ ?_ | exact EqV_w | exact EqE_w | exact EqV_fn | exact EqE_fn | exact EqV_gd | exact EqE_gd | refine cw (c1) ?_ | refine cw (c2) ?_ | intro _) | (simp [*, hq, hp, ht, hlI]) | (refine cw_eq (c1) ?_ ?_; (· (simp [*]; done))) | (refine cw_eq (c2) ?_ ?_; (· (simp [*]; done))))
        all_goals simp [RetA, resL, resA, oneOf]
        all_goals exact kh3
      · rw [if_neg (fun e => hl e.2.1)] at h3
        have kh3 := keep (h3 rfl)
        clear h1 h2 h3 h4 hn hn'
        have hlI : ¬ (w.length : Int) = 4 := by omega
        clear hl
        repeat' (first | (with_reducible first | refine awp_seq ?_ | refine awp_skip ?_ | refine awp_ret ?_ | refine awp_region ?_ | refine awp_condM ?_ | refine And.intro ?_ ?_ | exact EqV_w | exact EqE_w | exact EqV_fn | exact EqE_fn | exact EqV_gd | exact EqE_gd | refine cw (c1) ?_ | refine cw (c2) ?_ | intro _) | (simp [*, hq, hp, ht, hlI]) | (refine cw_eq (c1) ?_ ?_; (· (simp [*]; done))) | (refine cw_eq (c2) ?_ ?_; (· (simp [*]; done))))
        all_goals simp [RetA, resL, resA, oneOf]
        all_goals exact kh3
    · rw [if_neg (fun e => ht e.1)] at h3
      have kh3 := keep (h3 rfl)
      clear h1 h2 h3 h4 hn hn'
      repeat' (first | (with_reducible first | refine awp_seq ?_ | refine awp_skip ?_ | refine awp_ret ?_ | refine awp_region ?_ | refine awp_condM ?_ | refine And.intro ?_ ?_ | exact EqV_w | exact EqE_w | exact EqV_fn | exact EqE_fn | exact EqV_gd | exact EqE_gd | refine cw (c1) ?_ | refine cw (c2) ?_ | intro _) | (simp [*, hq, hp, ht]) | (refine cw_eq (c1) ?_ ?_; (· (simp [*]; done))) | (refine cw_eq (c2) ?_ ?_; (· (simp [*]; done))))
      all_goals simp [RetA, resL, resA, oneOf]
      all_goals exact kh3
  · rw [List.concat_eq_append] at hr
    subst hr
    simp only [ptH_snoc, nxR_snoc, rdC_snoc, List.length_append, List.length_cons, List.length_nil, Nat.zero_add] at *
    by_cases hn : noneB w = true
    · rw [if_pos hn] at h3
      have kh3 := keep (h3 rfl)
      clear h1 h2 h3 h4
      rw [hn] at c2
      repeat' (first | (with_reducible first | refine awp_seq ?_ | refine awp_ret ?_ | refine awp_region ?_ | refine awp_condM ?_ | refine And.intro ?_ ?_ | exact EqV_w | exact EqE_w | exact EqV_fn | exact EqE_fn | exact EqV_gd | exact EqE_gd | refine cw (c1) ?_ | refine cw (c2) ?_ | intro _) | (simp [*]) | (refine cw_eq (c1) ?_ ?_; (· (simp [*]; done))) | (refine cw_eq (c2) ?_ ?_; (· (simp [*]; done))))
      all_goals simp [RetA, resL, resA, oneOf]
      all_goals exact kh3
    have hn' : noneB w = false := by simpa using hn
    rw [hn'] at c2
    rw [if_neg hn] at h1 h2 h3 h4
    by_cases hp : nth w 0 = wPlace
    · rw [if_pos hp] at h1 h2 h3 h4
      by_cases hl : w.length = 2
      · have hlI : (w.length : Int) = 2 := by omega
        have hl1 : 1 < w.length := by omega
        rw [if_neg (fun e => by simp at e)] at h3
        have kh3 := keep (h3 rfl)
        clear h1 h2 h3 h4 hl hn hn'
        repeat' (first | (with_reducible first | refine awp_seq ?_ | refine awp_skip ?_ | refine awp_ret ?_ | refine awp_region ?_ | refine awp_condM ?_ | refine And.intro ?_ ?_ | exact EqV_w | exact EqE_w | exact EqV_fn | exact EqE_fn | exact EqV_gd | exact EqE_gd | refine cw (c1) ?_ | refine cw (c2) ?_ | intro _) | (simp [*, hp, hlI, hl1]) | (refine cw_eq (c1) ?_ ?_; (· (simp [*]; done))) | (refine cw_eq (c2) ?_ ?_; (· (simp [*]; done))))
        all_goals simp [RetA, resL, resA, oneOf]
        all_goals exact kh3
      · rw [if_neg (fun e => hl e.1)] at h3
        have kh3 := keep (h3 rfl)
        clear h1 h2 h3 h4 hn hn'
        have hlI : ¬ (w.length : Int) = 2 := by omega
        clear hl
        repeat' (first | (with_reducible first | refine awp_seq ?_ | refine awp_skip ?_ | refine awp_ret ?_ | refine awp_region ?_ | refine awp_condM ?_ | refine And.intro ?_ ?_ | exact EqV_w | exact EqE_w | exact EqV_fn | exact EqE_fn | exact EqV_gd | exact EqE_gd | refine cw (c1) ?_ | refine cw (c2) ?_ | intro _) | (simp [*, hp, hlI]) | (refine cw_eq (c1) ?_ ?_; (· (simp [*]; done))) | (refine cw_eq (c2) ?_ ?_; (· (simp [*]; done))))
        all_goals simp [RetA, resL, resA, oneOf]
        all_goals exact kh3
    rw [if_neg hp] at h1 h2 h3 h4
    by_cases hq : nth w 0 = wRoad
    · rw [if_pos hq] at h1 h2 h3 h4
      by_cases hl : w.length = 5
      · have hlI : (w.length : Int) = 5 := by omega
        have hl1 : 1 < w.length := by omega
        have hl2 : 2 < w.length := by omega
        have hl3 : 3 < w.length := by omega
        have hl4 : 4 < w.length := by omega
        have c3 := rNumber_c (nth w 4) (ws 4 hl4)
        rw [if_pos hl] at h2 h4
        cases hv : numS (nth w 4) with
        | some v =>
          have e1 : numV (nth w 4) = v := by unfold numV; rw [hv]; rfl
          have e2 : numB (nth w 4) = true := by unfold numB; rw [hv]; rfl
          rw [e1, e2] at c3
          rw [hv] at h2
          have g2 := h2 _ _ _ _ rfl
          try simp only [List.cons_append, List.nil_append, List.append_assoc] at g2
          have kh2 := keep g2
          clear g2 h1 h2 h3 h4 hl hn hn' hv e1 e2
          repeat' (first | (with_reducible first | refine stop_at (id := 15) ?_ | refine awp_seq ?_ | refine awp_skip ?_ | refine awp_region ?_ | refine awp_regionS (id := 13) [0, 1, 2, 3, 4, 5, 6, 7, 8, 9, 10] [11, 12, 13, 14] [[.fld 0 25 1], [], [], [], [], [], [], [], [], [], []] [[.fld 0 25 1], [], [], [.slot 0]] mixed (by decide +kernel) ?_ | refine awp_regionS (id := 14) [0, 1, 2, 3, 4, 5, 6, 7, 8, 9, 10, 11] [12, 13, 14] [[.all], [], [], [], [], [], [], [], [], [], [], []] [[.all], [], [.slot 1]] mixed (by decide +kernel) ?_ | refine awp_condM ?_ | refine And.intro ?_ ?_ | exact EqV_w | exact EqE_w | exact EqV_fn | exact EqE_fn | exact EqV_gd | exact EqE_gd | refine cw (c1) ?_ | refine cw (c2) ?_ | refine cw (c3) ?_ | intro _) | (simp [*, hq, hp, hlI, hl1, hl2, hl3, hl4]) | (refine cw_eq (c1) ?_ ?_; (· (simp [*]; done))) | (refine cw_eq (c2) ?_ ?_; (· (simp [*]; done))) | (refine cw_eq (c3) ?_ ?_; (· (simp [*]; done))))
          all_goals try first | exact inI64 (by omega) (by omega) | omega
          refine ⟨awp_le (st' := ⟨[(9, .w false false (.bool true))], [(1, [.msl 3 places.length 1 0 places.length, .msl 4 ((l.length + 1) * 5 + 5) 5 0 ((l.length + 1) + 1)]), (2, [.msl 5 (ends.length * 2 + 2) 2 0 (ends.length + 1)]), (3, stA places), (4, (roA l ++ laR r) ++ neR (nth w 1) v), (5, enA ends ++ [.w false false (.str (nth w 2)), .w false false (.str (nth w 3))]), (6, iA A), (0, [nilA, nilA])] ++ [(7, ptA r.pts)], 8, 152⟩) (by refine le_gen [] ?_ ?_ <;> first | trivial | (simp [laR, neR, Nat.add_mul]; done)) ?_⟩
          repeat' (first | (with_reducible first | refine awp_ret ?_ | refine awp_region ?_ | exact EqV_w | exact EqE_w | exact EqV_fn | exact EqE_fn | exact EqV_gd | exact EqE_gd | intro _) | (simp [*]))
          all_goals simp [RetA, resL, resA, oneOf]
          all_goals exact kh2
        | none =>
          have e2 : numB (nth w 4) = false := by unfold numB; rw [hv]; rfl
          rw [e2] at c3
          rw [hv] at h4
          have kh4 := keep (h4 rfl)
          clear h1 h2 h3 h4 hl hn hn' hv e2
          repeat' (first | (with_reducible first | refine stop_at (id := 15) ?_ | refine awp_seq ?_ | refine awp_skip ?_ | refine awp_region ?_ | refine awp_regionS (id := 13) [0, 1, 2, 3, 4, 5, 6, 7, 8, 9, 10] [11, 12, 13, 14] [[.fld 0 25 1], [], [], [], [], [], [], [], [], [], []] [[.fld 0 25 1], [], [], [.slot 0]] mixed (by decide +kernel) ?_ | refine awp_regionS (id := 14) [0, 1, 2, 3, 4, 5, 6, 7, 8, 9, 10, 11] [12, 13, 14] [[.all], [], [], [], [], [], [], [], [], [], [], []] [[.all], [], [.slot 1]] mixed (by decide +kernel) ?_ | refine awp_condM ?_ | refine And.intro ?_ ?_ | exact EqV_w | exact EqE_w | exact EqV_fn | exact EqE_fn | exact EqV_gd | exact EqE_gd | refine cw (c1) ?_ | refine cw (c2) ?_ | refine cw (c3) ?_ | intro _) | (simp [*, hq, hp, hlI, hl1, hl2, hl3, hl4]) | (refine cw_eq (c1) ?_ ?_; (· (simp [*]; done))) | (refine cw_eq (c2) ?_ ?_; (· (simp [*]; done))) | (refine cw_eq (c3) ?_ ?_; (· (simp [*]; done))))
          all_goals try first | exact inI64 (by omega) (by omega) | omega
          refine ⟨awp_le (st' := ⟨[(9, .w false false (.bool false))], badH, 8, 152⟩) (le_of (by simp) (by simp [badH])) ?_⟩
          repeat' (first | (with_reducible first | refine awp_ret ?_ | refine awp_region ?_ | exact EqV_w | exact EqE_w | exact EqV_fn | exact EqE_fn | exact EqV_gd | exact EqE_gd | intro _) | (simp [*]))
          all_goals simp [RetA, resL, resA, oneOf]
          all_goals exact kh4
      · rw [if_neg hl] at h3
        have kh3 := keep (h3 rfl)
        clear h1 h2 h3 h4 hn hn'
        have hlI : ¬ (w.length : Int) = 5 := by omega
        clear hl
        repeat' (first | (with_reducible first | refine awp_seq ?_ | refine awp_skip ?_ | refine awp_ret ?_ | refine awp_region ?_ | refine awp_condM ?_ | refine And.intro ?_ ?_ | exact EqV_w | exact EqE_w | exact EqV_fn | exact EqE_fn | exact EqV_gd | exact EqE_gd | refine cw (c1) ?_ | refine cw (c2) ?_ | intro _) | (simp [*, hq, hp, hlI]) | (refine cw_eq (c1) ?_ ?_; (· (simp [*]; done))) | (refine cw_eq (c2) ?_ ?_; (· (simp [*]; done))))
        all_goals simp [RetA, resL, resA, oneOf]
        all_goals exact kh3
    rw [if_neg hq] at h1 h2 h3 h4
    by_cases ht : nth w 0 = wTime
    · by_cases hl : w.length = 4
      · have hlI : (w.length : Int) = 4 := by omega
        have hl1 : 1 < w.length := by omega
        have hl2 : 2 < w.length := by omega
        have hl3 : 3 < w.length := by omega
        have c3 : ∀ k, k < 3 → RealCall Tryz.prog 58 [.str (nth w (k + 1)), .int .i64 9] (.tup [.int .i64 (numV (nth w (k + 1))), .bool (numB (nth w (k + 1)))]) true := fun k hk => rNumber_c _ (ws (k + 1) (by omega))
        rw [if_pos ⟨ht, hl, by simp⟩] at h1 h4
        have kc3 := keep c3
        have g4 : ∀ k, k < 3 → numB (nth w (k + 1)) = false → K (.w false false (.bool false)) badH 8 := by
          intro k hk e
          have e' : numS (nth w (k + 1)) = none := by unfold numB at e; simpa using e
          refine h4 ?_
          match k, hk with
          | 0, _ => rw [show numS (nth w 1) = none from e']
          | 1, _ => rw [show numS (nth w 2) = none from e']; cases numS (nth w 1) <;> rfl
          | 2, _ => rw [show numS (nth w 3) = none from e']; cases numS (nth w 1) <;> cases numS (nth w 2) <;> rfl
        have g1 : (∀ j, j < 3 → numB (nth w (j + 1)) = true) → K (.w false false (.bool true)) [(1, [.msl 3 places.length 1 0 places.length, .msl 4 ((l.length + 1) * 5) 5 0 (l.length + 1)]), (2, [.msl 5 (ends.length * 2) 2 0 ends.length]), (3, stA places), (4, roA l ++ [.w false false (.str r.name), .w false false (.int .i64 r.frm), .w false false (.int .i64 r.to), .w false false (.int .i64 r.metres), .msl 7 ((r.pts.length + 1) * 3) 3 0 (r.pts.length + 1)]), (5, enA ends), (6, iA A), (0, [nilA, nilA]), (7, ptA r.pts ++ [.w false false (.int .i64 (numV (nth w 1))), .w false false (.int .i64 (numV (nth w 2))), .w false false (.int .i64 (numV (nth w 3)))])] 8 := by
          intro hb
          have e : ∀ j, j < 3 → numS (nth w (j + 1)) = some (numV (nth w (j + 1))) := by
            intro j hj
            have := hb j hj
            unfold numB at this
            unfold numV
            cases h : numS (nth w (j + 1)) with
            | none => rw [h] at this; cases this
            | some v => rfl
          have := h1 ⟨places, addP (l ++ [r]) ⟨numV (nth w 1), numV (nth w 2), numV (nth w 3)⟩, ends, at_⟩ (by rw [show numS (nth w 1) = _ from e 0 (by omega), show numS (nth w 2) = _ from e 1 (by omega), show numS (nth w 3) = _ from e 2 (by omega)]) rfl rfl (by rw [addP_snoc]; simp) (by rw [addP_snoc, nxR_snoc])
          simp only [addP_snoc, rdC_snoc, ptH_snoc, ptA_snoc, laR, List.length_append, List.length_cons, List.length_nil, Nat.zero_add, List.cons_append, List.nil_append] at this
          exact this
        have kg4 := keep g4
        have kg1 := keep g1
        have kws := keep ws
        have hptr : r.pts.length < 1000 := pt r (by simp)
        have kpt := keep pt
        clear c3 g4 g1 h1 h2 h3 h4 hn hn' hl ws pt
        have hl0 : ¬ (l.length : Int) + 1 = 0 := by omega
        repeat' (first | (with_reducible first | refine awp_seq ?_ | refine awp_skip ?_ | refine awp_region ?_ | refine awp_condM ?_ | refine And.intro ?_ ?_ | exact EqV_w | exact EqE_w | exact EqV_fn | exact EqE_fn | exact EqV_gd | exact EqE_gd | refine cw (c1) ?_ | refine cw (c2) ?_ | intro _) | (simp [*, hq, hp, ht, hlI, hl0]) | (refine cw_eq (c1) ?_ ?_; (· (simp [*]; done))) | (refine cw_eq (c2) ?_ ?_; (· (simp [*]; done))))
        refine awp_for4 9 (fun (k : Nat) => k ≤ 3 ∧ (∀ j, j < k → numB (nth w (j + 1)) = true)) [0, 7, 10] (fun (k : Nat) => [(11, .w false false (.int .i64 k))]) [1, 2, 3, 4, 5, 6, 0, 7] (fun (k : Nat) => [(8, arN w k)]) (fun (k : Nat) => 3 - k) (fun (_u : Unit) => ∀ j, j < 3 → numB (nth w (j + 1)) = true) [0, 10] (fun (_u : Unit) => []) [1, 2, 3, 4, 5, 6, 0, 7] (fun (_u : Unit) => [(8, arN w 3)]) (0) ⟨Nat.zero_le _, fun j hj => absurd hj (Nat.not_lt_zero _)⟩ (le_gen [] (by simp [arN]) (by simp [arN])) (fun k hk => ?_) (fun _u hf => ?_)
        · obtain ⟨hk, hj⟩ := hk
          have kj := keep hj
          clear hj
          by_cases hlt : k < 3
          · have hltI : (k : Int) < 3 := by omega
            have hn : ((k : Int) + 1).toNat = k + 1 := by omega
            have hkl : k + 1 < w.length := by omega
            have c3 := (show ∀ k, k < 3 → RealCall _ _ _ _ _ from kc3) k hlt
            have hset := arN_set w k hlt
            cases hv : numB (nth w (k + 1)) with
            | true =>
              rw [hv] at c3
              have hjn := keep (show ∀ j, j < k + 1 → numB (nth w (j + 1)) = true from fun j hjk => by
                rcases Nat.lt_or_ge j k with h | h
                · exact (show ∀ j, j < k → numB (nth w (j + 1)) = true from kj) j h
                · rw [show j = k by omega]; exact hv)
              clear hv kj kc3 kg4 kg1 hlI
              repeat' (first | (with_reducible first | refine awp_seq ?_ | refine awp_blockS ?_ | refine awp_skip ?_ | refine awp_region ?_ | refine awp_condM ?_ | refine And.intro ?_ ?_ | exact EqV_w | exact EqE_w | exact EqV_fn | exact EqE_fn | exact EqV_gd | exact EqE_gd | refine cw (c3) ?_ | intro _) | (simp [*, hltI, hn, hkl, hlt, hset]) | (refine cw_eq (c3) ?_ ?_; (· (simp [*]; done))))
              all_goals try first | exact inI64 (by omega) (by omega) | omega
              all_goals (refine loopK_normal _ _ _ _ _ (k + 1) _ ?_ (by first | omega | (dsimp only; omega) | (simp; omega)) ?_; (· exact ⟨by omega, hjn⟩); (refine le_gen [] ?_ ?_ <;> first | trivial | (simp [*, hset]; done)))
            | false =>
              rw [hv] at c3
              have kh4 := keep ((show ∀ k, k < 3 → numB (nth w (k + 1)) = false → K (.w false false (.bool false)) badH 8 from kg4) k hlt hv)
              clear hv kj kc3 kg4 kg1 hlI
              repeat' (first | (with_reducible first | refine stop_at (id := 24) ?_ | refine awp_seq ?_ | refine awp_blockS ?_ | refine awp_skip ?_ | refine awp_region ?_ | refine awp_condM ?_ | refine And.intro ?_ ?_ | exact EqV_w | exact EqE_w | exact EqV_fn | exact EqE_fn | exact EqV_gd | exact EqE_gd | refine cw (c3) ?_ | intro _) | (simp [*, hltI, hn, hkl, hlt]) | (refine cw_eq (c3) ?_ ?_; (· (simp [*]; done))))
              all_goals try first | exact inI64 (by omega) (by omega) | omega
              refine ⟨awp_le (st' := ⟨[], badH, 8, 152⟩) (by refine le_gen [] ?_ ?_ <;> first | trivial | (simp [badH]; done)) ?_⟩
              repeat' (first | (with_reducible first | refine awp_ret ?_ | refine awp_region ?_ | exact EqV_w | exact EqE_w | exact EqV_fn | exact EqE_fn | exact EqV_gd | exact EqE_gd | intro _) | (simp [*]))
              all_goals simp [RetA, resL, resA, oneOf]
              all_goals exact kh4
          · have hke : k = 3 := by omega
            subst hke
            repeat' (first | (with_reducible first | refine awp_seq ?_ | refine awp_exit ?_ | refine awp_region ?_ | refine awp_condM ?_ | exact EqV_w | exact EqE_w | exact EqV_fn | exact EqE_fn | exact EqV_gd | exact EqE_gd | intro _) | (simp [*]))
            all_goals (refine finW_intro () ?_ ?_; (· exact kj); (refine le_gen [] ?_ ?_ <;> first | trivial | (simp [*]; done)))
        · have kh1 := keep ((show (∀ j, j < 3 → numB (nth w (j + 1)) = true) → K _ _ _ from kg1) hf)
          have ha : arN w 3 = [.w false false (.int .i64 (numV (nth w 1))), .w false false (.int .i64 (numV (nth w 2))), .w false false (.int .i64 (numV (nth w 3)))] := rfl
          have hgt := rd_get l r
          have hst := rd_set l r
          clear hf kg1 kg4 kc3 kws
          repeat' (first | (with_reducible first | refine stop_at (id := 28) ?_ | refine awp_seq ?_ | refine awp_regionD (id := 26) 12 mixed (by decide +kernel) ?_ | refine awp_regionS (id := 27) [0, 1, 2, 3, 4, 5, 6, 7, 8, 9, 10, 11, 12, 13] [14, 15, 16, 17] [[.fld 14 55 4], [], [], [], [], [], [], [], [], [], [], [], [], []] [[.fld 14 55 4], [], [], [.slot 14]] mixed (by decide +kernel) ?_ | refine And.intro ?_ ?_ | exact EqV_w | exact EqE_w | exact EqV_fn | exact EqE_fn | exact EqV_gd | exact EqE_gd | intro _) | (simp [*, ha, hgt, hst]))
          all_goals try first | exact inI64 (by omega) (by omega) | omega
          have hm3 : (r.pts.length + 1) * 3 = r.pts.length * 3 + 3 := by omega
          refine ⟨awp_le (st' := ⟨[], [(1, [.msl 3 places.length 1 0 places.length, .msl 4 ((l.length + 1) * 5) 5 0 (l.length + 1)]), (2, [.msl 5 (ends.length * 2) 2 0 ends.length]), (3, stA places), (4, roA l ++ [.w false false (.str r.name), .w false false (.int .i64 r.frm), .w false false (.int .i64 r.to), .w false false (.int .i64 r.metres), .msl 7 ((r.pts.length + 1) * 3) 3 0 (r.pts.length + 1)]), (5, enA ends), (6, iA A), (0, [nilA, nilA]), (7, ptA r.pts ++ [.w false false (.int .i64 (numV (nth w 1))), .w false false (.int .i64 (numV (nth w 2))), .w false false (.int .i64 (numV (nth w 3)))])], 8, 152⟩) (by refine le_gen [] ?_ ?_ <;> first | trivial | (simp [hm3]; done)) ?_⟩
          clear hm3
          repeat' (first | (with_reducible first | refine awp_ret ?_ | refine awp_region ?_ | exact EqV_w | exact EqE_w | exact EqV_fn | exact EqE_fn | exact EqV_gd | exact EqE_gd | intro _) | (simp [*]))
          all_goals simp [RetA, resL, resA, oneOf]
          all_goals exact kh1
      · rw [if_neg (fun e => hl e.2.1)] at h3
        have kh3 := keep (h3 rfl)
        clear h1 h2 h3 h4 hn hn'
        have hlI : ¬ (w.length : Int) = 4 := by omega
        clear hl
        repeat' (first | (with_reducible first | refine awp_seq ?_ | refine awp_skip ?_ | refine awp_ret ?_ | refine awp_region ?_ | refine awp_condM ?_ | refine And.intro ?_ ?_ | exact EqV_w | exact EqE_w | exact EqV_fn | exact EqE_fn | exact EqV_gd | exact EqE_gd | refine cw (c1) ?_ | refine cw (c2) ?_ | intro _) | (simp [*, hq, hp, ht, hlI]) | (refine cw_eq (c1) ?_ ?_; (· (simp [*]; done))) | (refine cw_eq (c2) ?_ ?_; (· (simp [*]; done))))
        all_goals simp [RetA, resL, resA, oneOf]
        all_goals exact kh3
    · rw [if_neg (fun e => ht e.1)] at h3
      have kh3 := keep (h3 rfl)
      clear h1 h2 h3 h4 hn hn'
      repeat' (first | (with_reducible first | refine awp_seq ?_ | refine awp_skip ?_ | refine awp_ret ?_ | refine awp_region ?_ | refine awp_condM ?_ | refine And.intro ?_ ?_ | exact EqV_w | exact EqE_w | exact EqV_fn | exact EqE_fn | exact EqV_gd | exact EqE_gd | refine cw (c1) ?_ | refine cw (c2) ?_ | intro _) | (simp [*, hq, hp, ht]) | (refine cw_eq (c1) ?_ ?_; (· (simp [*]; done))) | (refine cw_eq (c2) ?_ ?_; (· (simp [*]; done))))
      all_goals simp [RetA, resL, resA, oneOf]
      all_goals exact kh3
end Go.Proofs.YtfpamehamllndaaGreatDoor
namespace Go.Proofs.YtfpamehamllndaaGreatDoor
open Go Go.Fi Go.RowKit Go.Shelf
set_option maxRecDepth 20000

/-! ### plain: the parts of a text, its lines, the places of its roads -/
theorem cutL_sizes (c : UInt8) : ∀ l : List UInt8, (cutL c l).length ≤ l.length + 1 ∧ ∀ x ∈ cutL c l, x.length ≤ l.length
  | [] => by simp [cutL]
  | b :: l => by
    obtain ⟨h1, h2⟩ := cutL_sizes c l
    unfold cutL
    split
    · refine ⟨by simp; omega, fun x hx => ?_⟩
      rcases List.mem_cons.1 hx with rfl | hx
      · simp
      · have := h2 x hx; simp; omega
    · cases hc : cutL c l with
      | nil => exact absurd hc (cutL_ne c l)
      | cons y r =>
        rw [hc] at h1 h2
        refine ⟨by simp at h1 ⊢; omega, fun x hx => ?_⟩
        rcases List.mem_cons.1 hx with rfl | hx
        · have := h2 y (by simp); simp; omega
        · have := h2 x (List.mem_cons_of_mem _ hx); simp; omega
theorem pieces_len (s : ByteArray) (c : UInt8) : (pieces s ⟨#[c]⟩).length ≤ s.size + 1 := by
  have h := (cutL_sizes c s.data.toList).1
  rw [← pieces_cut, List.length_map, ba_len] at h
  exact h
theorem pieces_size (s : ByteArray) (c : UInt8) {x : ByteArray} (hx : x ∈ pieces s ⟨#[c]⟩) : x.size ≤ s.size := by
  have h := (cutL_sizes c s.data.toList).2 x.data.toList (by rw [← pieces_cut]; exact List.mem_map_of_mem hx)
  rwa [ba_len, ba_len] at h
theorem nth_memA {α : Type} [Inhabited α] (l : List α) (k : Nat) (h : k < l.length) : nth l k ∈ l := by
  simp [nth, List.getD_eq_getElem?_getD, List.getElem?_eq_getElem h]

structure DrIn (d : Dr) (i : Nat) : Prop where
  np : d.places.length ≤ i
  nr : d.roads.length ≤ i
  ne : d.ends.length = d.roads.length
  na : d.at_.length = d.roads.length
  pt : ∀ r ∈ d.roads, r.pts.length ≤ i
  ps : ∀ x ∈ d.places, x.size < 1000
  rs : ∀ r ∈ d.roads, r.name.size < 1000
theorem DrIn.zero : DrIn ⟨[], [], [], []⟩ 0 := ⟨Nat.le_refl 0, Nat.le_refl 0, rfl, rfl, (fun r h => by cases h), (fun r h => by cases h), (fun r h => by cases h)⟩
theorem DrIn.up {d : Dr} {i : Nat} (h : DrIn d i) : DrIn d (i + 1) :=
  ⟨Nat.le_succ_of_le h.np, Nat.le_succ_of_le h.nr, h.ne, h.na, fun r hr => Nat.le_succ_of_le (h.pt r hr), h.ps, h.rs⟩
theorem DrIn.line {d d' : Dr} {i : Nat} {k : Int} {w : List ByteArray} (h : DrIn d i) (hw : ∀ x ∈ w, x.size < 1000) (he : lineD d k w = some d') : DrIn d' (i + 1) := by
  unfold lineD at he
  split at he
  · cases he
  · split at he
    · rename_i a x _
      split at he
      · injection he with he; subst he
        refine ⟨by simpa using h.np, Nat.le_succ_of_le h.nr, h.ne, h.na, fun r hr => Nat.le_succ_of_le (h.pt r hr), fun y hy => ?_, h.rs⟩
        rcases List.mem_append.1 hy with hy | hy
        · exact h.ps y hy
        · rw [List.mem_singleton.1 hy]; exact hw x (by simp)
      · cases he
    · rename_i a x y z m _
      split at he
      · cases hm : numS m with
        | none => rw [hm] at he; cases he
        | some v =>
          rw [hm] at he
          injection he with he; subst he
          refine ⟨Nat.le_succ_of_le h.np, by simpa using h.nr, by simpa using h.ne, by simpa using h.na, fun r hr => ?_, h.ps, fun r hr => ?_⟩
          · rcases List.mem_append.1 hr with hr | hr
            · exact Nat.le_succ_of_le (h.pt r hr)
            · rw [List.mem_singleton.1 hr]; simp
          · rcases List.mem_append.1 hr with hr | hr
            · exact h.rs r hr
            · rw [List.mem_singleton.1 hr]; exact hw x (by simp)
      · cases he
    · rename_i a x y z _
      split at he
      · rename_i hr
        split at he
        · injection he with he; subst he
          rcases List.eq_nil_or_concat d.roads with e | ⟨l, r, e⟩
          · rw [e] at hr; simp at hr
          · rw [List.concat_eq_append] at e
            refine ⟨Nat.le_succ_of_le h.np, ?_, ?_, ?_, ?_, h.ps, ?_⟩
            · have := h.nr; rw [e] at this; rw [e, addP_snoc]; simp at this ⊢; omega
            · have := h.ne; rw [e] at this; rw [e, addP_snoc]; simp at this ⊢; omega
            · have := h.na; rw [e] at this; rw [e, addP_snoc]; simp at this ⊢; omega
            · intro q hq
              rw [e, addP_snoc] at hq
              rcases List.mem_append.1 hq with hq | hq
              · exact Nat.le_succ_of_le (h.pt q (by rw [e]; exact List.mem_append.2 (.inl hq)))
              · rw [List.mem_singleton.1 hq]
                have := h.pt r (by rw [e]; simp)
                simp; omega
            · intro q hq
              rw [e, addP_snoc] at hq
              rcases List.mem_append.1 hq with hq | hq
              · exact h.rs q (by rw [e]; exact List.mem_append.2 (.inl hq))
              · rw [List.mem_singleton.1 hq]
                exact h.rs r (by rw [e]; simp)
        · cases he
      · cases he
    · cases he

theorem linesD_last (d : Dr) (k : Int) (s : ByteArray) : linesD d k [s] = if s = (⟨#[]⟩ : ByteArray) then .inr d else .inl k := rfl
theorem linesD_more (d : Dr) (k : Int) (s t : ByteArray) (r : List ByteArray) : linesD d k (s :: t :: r) = match lineD d k (pieces s sp1) with
    | none => .inl k
    | some d' => linesD d' (k + 1) (t :: r) := rfl
theorem lines_last {d : Dr} {k : Int} {L : List ByteArray} {i : Nat} (h : i + 1 = L.length) : linesD d k (L.drop i) = if nth L i = (⟨#[]⟩ : ByteArray) then .inr d else .inl k := by
  rw [drop_nthA L i (by omega), List.drop_eq_nil_of_le (by omega)]; rfl
theorem lines_bad {d : Dr} {k : Int} {L : List ByteArray} {i : Nat} (h : i + 1 < L.length) (hn : lineD d k (pieces (nth L i) sp1) = none) : linesD d k (L.drop i) = .inl k := by
  rw [drop_nthA L i (by omega), drop_nthA L (i + 1) h, linesD_more, hn]
theorem lines_good {d d' : Dr} {k : Int} {L : List ByteArray} {i : Nat} (h : i + 1 < L.length) (hn : lineD d k (pieces (nth L i) sp1) = some d') : linesD d k (L.drop i) = linesD d' (k + 1) (L.drop (i + 1)) := by
  rw [drop_nthA L i (by omega), drop_nthA L (i + 1) h, linesD_more, hn]

def setE (pl : List ByteArray) (r : Road) (e : ByteArray × ByteArray) : Road := { r with frm := idxOf pl e.1, to := idxOf pl e.2 }
def okE (pl : List ByteArray) (e : ByteArray × ByteArray) : Prop := 0 ≤ idxOf pl e.1 ∧ 0 ≤ idxOf pl e.2
def endK (pl : List ByteArray) (R : List Road) (E : List (ByteArray × ByteArray)) (j : Nat) : List Road := (List.zipWith (setE pl) R E).take j ++ R.drop j
theorem endsD_ok (pl : List ByteArray) : ∀ (R : List Road) (E : List (ByteArray × ByteArray)) (A : List Int), E.length = R.length → A.length = R.length → (∀ j, j < E.length → okE pl (nth E j)) → endsD pl R E A = .inr (List.zipWith (setE pl) R E)
  | [], E, A, _, _, _ => by simp [endsD]
  | r :: R, [], A, h, _, _ => by simp at h
  | r :: R, e :: E, [], _, h, _ => by simp at h
  | r :: R, e :: E, a :: A, h1, h2, h => by
    have h0 : okE pl e := h 0 (by simp)
    have ih := endsD_ok pl R E A (by simpa using h1) (by simpa using h2) (fun j hj => h (j + 1) (by simpa using hj))
    unfold okE at h0
    simp only [endsD]
    rw [if_neg (by omega), ih]
    rfl
theorem endsD_bad (pl : List ByteArray) : ∀ (R : List Road) (E : List (ByteArray × ByteArray)) (A : List Int) (j : Nat), E.length = R.length → A.length = R.length → j < E.length → (∀ i, i < j → okE pl (nth E i)) → ¬ okE pl (nth E j) → endsD pl R E A = .inl (nth A j)
  | [], E, A, j, h, _, hj, _, _ => by simp at h; subst h; simp at hj
  | r :: R, [], A, j, h, _, _, _, _ => by simp at h
  | r :: R, e :: E, [], j, _, h, _, _, _ => by simp at h
  | r :: R, e :: E, a :: A, 0, h1, h2, hj, hi, hb => by
    have hb' : ¬ okE pl e := hb
    unfold okE at hb'
    simp only [endsD]
    rw [if_pos (by omega)]
    rfl
  | r :: R, e :: E, a :: A, j + 1, h1, h2, hj, hi, hb => by
    have h0 : okE pl e := hi 0 (by omega)
    have ih := endsD_bad pl R E A j (by simpa using h1) (by simpa using h2) (by simpa using hj) (fun i h => hi (i + 1) (by omega)) hb
    unfold okE at h0
    simp only [endsD]
    rw [if_neg (by omega), ih]
    rfl
theorem endK_len (pl : List ByteArray) (R : List Road) (E : List (ByteArray × ByteArray)) (j : Nat) (h : E.length = R.length) : (endK pl R E j).length = R.length := by
  simp [endK, h]; omega
theorem endK_zero (pl : List ByteArray) (R : List Road) (E : List (ByteArray × ByteArray)) : endK pl R E 0 = R := by simp [endK]
theorem endK_all (pl : List ByteArray) (R : List Road) (E : List (ByteArray × ByteArray)) (h : E.length = R.length) : endK pl R E E.length = List.zipWith (setE pl) R E := by
  unfold endK
  rw [List.take_of_length_le (by simp [h]), List.drop_eq_nil_of_le (by omega), List.append_nil]
theorem endK_nth (pl : List ByteArray) (R : List Road) (E : List (ByteArray × ByteArray)) (j : Nat) (h : E.length = R.length) (hj : j < R.length) : nth (endK pl R E j) j = nth R j := by
  unfold endK nth
  rw [List.getD_eq_getElem?_getD, List.getElem?_append_right (by simp [h]; omega)]
  simp [h, Nat.min_eq_left (Nat.le_of_lt hj), List.getD_eq_getElem?_getD]
theorem endK_succ (pl : List ByteArray) (R : List Road) (E : List (ByteArray × ByteArray)) (j : Nat) (h : E.length = R.length) (hj : j < R.length) : endK pl R E (j + 1) = (endK pl R E j).set j (setE pl (nth R j) (nth E j)) := by
  unfold endK
  have hl : ((List.zipWith (setE pl) R E).take j).length = j := by simp [h]; omega
  rw [List.set_append_right _ _ (by omega), hl, Nat.sub_self, drop_nthA R j hj, List.set_cons_zero]
  rw [List.take_succ_eq_append_getElem (by simp [h]; omega)]
  simp [nth, List.getD_eq_getElem?_getD, List.getElem?_eq_getElem hj, List.getElem?_eq_getElem (show j < E.length by omega)]
theorem cRoads_set2 : ∀ (l : List Road) (k : Nat) (a b : Int), k < l.length → ((cRoads l).set (k * 5 + 1) (.int .i64 a)).set (k * 5 + 2) (.int .i64 b) = cRoads (l.set k { nth l k with frm := a, to := b })
  | [], _, _, _, h => by simp at h
  | r :: l, 0, a, b, _ => rfl
  | r :: l, k + 1, a, b, h => by
    have ih := cRoads_set2 l k a b (by simpa using h)
    have e1 : (k + 1) * 5 + 1 = k * 5 + 1 + 5 := by omega
    have e2 : (k + 1) * 5 + 2 = k * 5 + 2 + 5 := by omega
    rw [e1, e2]
    show cRoad r ++ ((cRoads l).set (k * 5 + 1) (.int .i64 a)).set (k * 5 + 2) (.int .i64 b) = cRoad r ++ cRoads (l.set k { nth (r :: l) (k + 1) with frm := a, to := b })
    rw [ih]; rfl
theorem roA_set2 (l : List Road) (k : Nat) (a b : Int) (h : k < l.length) : ((roA l).set (k * 5 + 1) (.w false false (.int .i64 a))).set (k * 5 + 2) (.w false false (.int .i64 b)) = roA (l.set k { nth l k with frm := a, to := b }) := by
  unfold roA; rw [← cRoads_set2 l k a b h, List.map_set, List.map_set]
end Go.Proofs.YtfpamehamllndaaGreatDoor

