/- Contracts of functions for this claim: lemmas alone. -/
import Derived.Test.YtfpamehamllndaaGreatDoorP117
import Derived.Test.YtfpamehamllndaaGreatDoorLbl
set_option linter.unusedSimpArgs false
set_option linter.unusedVariables false
namespace Go.Proofs.YtfpamehamllndaaGreatDoor
open Go Go.Fi Go.RowKit Go.Shelf
set_option maxRecDepth 20000

/-! ### the program reads a line, on the places of the draft -/
def laQ (p : Nat) (r : Road) : List AV := [.w false false (.str r.name), .w false false (.int .i64 r.frm), .w false false (.int .i64 r.to), .w false false (.int .i64 r.metres), .msl p (r.pts.length * 3) 3 0 r.pts.length]
def rdQ (l : List Road) : List AV := match l.reverse with
  | [] => []
  | r :: t => roA t.reverse ++ laQ (t.length + 9) r
def ptQ (l : List Road) : Heap := match l.reverse with
  | [] => []
  | r :: t => [(t.length + 9, ptA r.pts)]
theorem rdQ_nil : rdQ [] = [] := rfl
theorem rdQ_snoc (l : List Road) (r : Road) : rdQ (l ++ [r]) = roA l ++ laQ (l.length + 9) r := by simp [rdQ]
theorem ptQ_nil : ptQ [] = [] := rfl
theorem ptQ_snoc (l : List Road) (r : Road) : ptQ (l ++ [r]) = [(l.length + 9, ptA r.pts)] := by simp [ptQ]
@[simp] theorem laQ_len (p : Nat) (r : Road) : (laQ p r).length = 5 := rfl
@[simp] theorem rdQ_len (l : List Road) : (rdQ l).length = l.length * 5 := by
  rcases List.eq_nil_or_concat l with rfl | ⟨t, r, rfl⟩
  · rfl
  · rw [List.concat_eq_append, rdQ_snoc]; simp; omega
theorem laQ_lt (p : Nat) (r : Road) (n : Nat) (h : p < n) : AV.lt.ltL n (laQ p r) = true := by simp [laQ, AV.lt.ltL, AV.lt, h]
@[simp] theorem laQ_self {D : List Nat} {h : Heap} {n n' p : Nat} (r : Road) (hn : p < n') : cellsLe D h n n' (laQ p r) (laQ p r) = True := eq_true (cellsLe_refl (laQ_lt p r n' hn))
theorem rdQ_get (p : Nat) (l : List Road) (r : Road) : nthA (roA l ++ laQ p r) (l.length * 5 + 4) = .msl p (r.pts.length * 3) 3 0 r.pts.length := by
  unfold nthA
  rw [List.getD_eq_getElem?_getD, List.getElem?_append_right (by simp)]
  simp [laQ]
theorem rdQ_set (p : Nat) (l : List Road) (r : Road) (x : AV) : (roA l ++ laQ p r).set (l.length * 5 + 4) x = roA l ++ [.w false false (.str r.name), .w false false (.int .i64 r.frm), .w false false (.int .i64 r.to), .w false false (.int .i64 r.metres), x] := by
  rw [List.set_append_right _ _ (by simp)]
  simp [laQ]
def toP (l : List (Int × ByteArray × ByteArray)) : List PV := l.flatMap fun e => [.int .i64 e.1, .str e.2.1, .str e.2.2]
def toA (l : List (Int × ByteArray × ByteArray)) : List AV := (toP l).map (AV.w false false)
@[simp] theorem toP_len : ∀ l : List (Int × ByteArray × ByteArray), (toP l).length = l.length * 3
  | [] => rfl
  | e :: r => by have := toP_len r; simp only [toP, List.flatMap_cons, List.length_append, List.length_cons, List.length_nil] at this ⊢; omega
@[simp] theorem toA_len (l : List (Int × ByteArray × ByteArray)) : (toA l).length = l.length * 3 := by simp [toA]
theorem toA_snoc (l : List (Int × ByteArray × ByteArray)) (k : Int) (y z : ByteArray) : toA (l ++ [(k, y, z)]) = toA l ++ [.w false false (.int .i64 k), .w false false (.str y), .w false false (.str z)] := by simp [toA, toP]
@[simp] theorem toA_lt (l : List (Int × ByteArray × ByteArray)) (n : Nat) : AV.lt.ltL n (toA l) = true := ltL_map n false false _
@[simp] theorem toA_self {D : List Nat} {h : Heap} {n n' : Nat} (l : List (Int × ByteArray × ByteArray)) : cellsLe D h n n' (toA l) (toA l) = True := eq_true (cellsLe_w false false _)
@[simp high] theorem toA_frz (h : Heap) (d : Nat) (l : List (Int × ByteArray × ByteArray)) : (toA l).mapM (frz h d) = some (toP l) := mapM_frz h d false false _
abbrev iZ : AV := .w false false (.int .i64 0)
def prH (d : Dr) (T : List (Int × ByteArray × ByteArray)) (num : Int) (rest : ByteArray) : Heap := [(3, [.msl 6 d.places.length 1 0 d.places.length, .msl 7 (d.roads.length * 5) 5 0 d.roads.length, .msl 8 (T.length * 3) 3 0 T.length]), (4, [.w false false (.int .i64 num)]), (5, [.w false false (.str rest)]), (6, stA d.places), (7, rdQ d.roads), (8, toA T), (0, [nilA, nilA]), (1, [iZ]), (2, [iZ])] ++ ptQ d.roads
def nwH (d : Dr) (T : List (Int × ByteArray × ByteArray)) (num : Int) (rest : ByteArray) (k : Int) (x y z : ByteArray) (v : Int) : Heap := [(3, [.msl 6 d.places.length 1 0 d.places.length, .msl 7 (d.roads.length * 5 + 5) 5 0 (d.roads.length + 1), .msl 8 (T.length * 3 + 3) 3 0 (T.length + 1)]), (4, [.w false false (.int .i64 num)]), (5, [.w false false (.str rest)]), (6, stA d.places), (7, rdQ d.roads ++ neR x v), (8, toA T ++ [.w false false (.int .i64 k), .w false false (.str y), .w false false (.str z)]), (0, [nilA, nilA]), (1, [iZ]), (2, [iZ])] ++ ptQ d.roads
def bdH (num : Int) (rest : ByteArray) : Heap := [(4, [.w false false (.int .i64 num)]), (5, [.w false false (.str rest)]), (0, [nilA, nilA]), (1, [iZ]), (2, [iZ])]
theorem drop_one {w : List ByteArray} {i : Nat} (h : i < w.length) : (w.drop i).take 1 = [nth w i] := by
  rw [drop_nthA w i h]; rfl
theorem drop_three {w : List ByteArray} (h : w.length = 4) : w.drop 1 = [nth w 1, nth w 2, nth w 3] := by
  rw [drop_nthA w 1 (by omega), drop_nthA w 2 (by omega), drop_nthA w 3 (by omega), List.drop_eq_nil_of_le (by omega)]
theorem num1_some {s : ByteArray} {v : Int} (h : numS s = some v) : numP [s] 1 = .tup [.sl 1 [.int .i64 v], .bool true] := by
  unfold numP numL numL; rw [h]; rfl
theorem num1_none {s : ByteArray} (h : numS s = none) : numP [s] 1 = .tup [.sl 0 [], .bool false] := by
  unfold numP numL; rw [h]
theorem numL_len : ∀ {w : List ByteArray} {l : List Int}, numL w = some l → l.length = w.length
  | [], l, h => by injection h with h; subst h; rfl
  | s :: r, l, h => by
    unfold numL at h
    cases hs : numS s with
    | none => rw [hs] at h; cases h
    | some v =>
      rw [hs] at h
      cases hr : numL r with
      | none => rw [hr] at h; cases h
      | some q =>
        rw [hr] at h
        injection h with h; subst h
        simp [numL_len hr]
theorem num3_bad {w : List ByteArray} (h : w.length ≠ 3) : ∃ l, numP w 3 = .tup [.sl l.length (ints l), .bool false] := by
  unfold numP
  cases hl : numL w with
  | none => exact ⟨[], rfl⟩
  | some l =>
    refine ⟨l, ?_⟩
    have := numL_len hl
    dsimp only
    rw [decide_eq_false (by omega)]

theorem num3_all (a b c : ByteArray) : (∃ u v q, numS a = some u ∧ numS b = some v ∧ numS c = some q ∧ numP [a, b, c] 3 = .tup [.sl 3 [.int .i64 u, .int .i64 v, .int .i64 q], .bool true]) ∨
    (numP [a, b, c] 3 = .tup [.sl 0 [], .bool false] ∧ ∀ g : Int → Int → Int → Dr, (match numS a, numS b, numS c with | some u, some v, some q => some (g u v q) | _, _, _ => none) = none) := by
  unfold numP numL numL numL numL
  cases numS a with
  | none => exact .inr ⟨rfl, fun g => rfl⟩
  | some u =>
    cases numS b with
    | none => exact .inr ⟨rfl, fun g => rfl⟩
    | some v =>
      cases numS c with
      | none => exact .inr ⟨rfl, fun g => rfl⟩
      | some q => exact .inl ⟨u, v, q, rfl, rfl, rfl, rfl⟩

set_option maxHeartbeats 8000000 in
theorem pRead_w (d : Dr) (T : List (Int × ByteArray × ByteArray)) (k num : Int) (rest : ByteArray) (o f : Bool) (w : List ByteArray) (hin : RLineIn d w) (hT : T.length < 1000) (K : AV → Heap → Nat → Prop)
    (h1 : ∀ d', lineD d k w = some d' → d'.at_ = d.at_ → d'.ends = d.ends → d'.roads.length = d.roads.length → K (.w false false (.bool true)) (prH d' T num rest) (d.roads.length + 9))
    (h2 : ∀ x y z v, lineD d k w = some { d with roads := d.roads ++ [⟨x, 0, 0, v, []⟩], ends := d.ends ++ [(y, z)], at_ := d.at_ ++ [k] } → K (.w false false (.bool true)) (nwH d T num rest k x y z v) (d.roads.length + 9))
    (h4 : lineD d k w = none → K (.w false false (.bool false)) (bdH num rest) (d.roads.length + 9)) :
    AWPk ⟨d.roads.length + 9, none⟩ Tryz.prog (Tryz.f25.body.getD .skip) ⟨envA 0 [.ptr 3 3 0, .w false false (.int .i64 k), .w o f (.sl w.length (strP w))], prH d T num rest, d.roads.length + 9, Tryz.f25.ntmps⟩ (inlK Tryz.prog Tryz.f25.results.toList K) := by
  have c2 : RealCall Tryz.prog 54 [.sl w.length (strP w), .str ⟨#[]⟩] (.bool (noneB w)) true := by
    have := contT_c w ⟨#[]⟩ (by have := hin.wl; omega)
    rw [show Lib.containsS w ⟨#[]⟩ = noneB w from ?_] at this
    · exact this
    · rw [Bool.eq_iff_iff, Lib.containsS_iff]; simp [noneB]
  rw [lineD_eq d k w hin.wp] at h1 h2 h4
  obtain ⟨wl, wp, ws, np, nr, ne, pt⟩ := hin
  have wpI : (0 : Int) < (w.length : Int) := by omega
  have wp0 : 0 < w.length := wp
  have hpr : (wPlace = wRoad) = False := eq_false (by decide)
  have hpt : (wPlace = wTime) = False := eq_false (by decide)
  have hrt : (wRoad = wTime) = False := eq_false (by decide)
  have hrp : (wRoad = wPlace) = False := eq_false (by decide)
  have htp : (wTime = wPlace) = False := eq_false (by decide)
  have htr : (wTime = wRoad) = False := eq_false (by decide)
  have hb : Tryz.f25.body = some _ := rfl
  rw [hb]
  clear hb
  simp only [Option.getD_some, Tryz.ntmps25, Tryz.results25]
  unfold prH nwH at *
  obtain ⟨places, roads, ends, at_⟩ := d
  dsimp only at *
  rcases List.eq_nil_or_concat roads with hr | ⟨l, r, hr⟩
  · subst hr
    simp only [ptQ_nil, rdQ_nil, List.append_nil, List.nil_append, List.length_nil, Nat.zero_add] at *
    by_cases hn : noneB w = true
    · rw [if_pos hn] at h4
      have kh4 := keep (h4 rfl)
      clear h1 h2 h4
      rw [hn] at c2
      repeat' (first | (with_reducible first | refine stop_at (id := 2) ?_ | refine awp_seq ?_ | refine awp_region ?_ | refine awp_condM ?_ | refine And.intro ?_ ?_ | exact EqV_w | exact EqE_w | exact EqV_fn | exact EqE_fn | exact EqV_gd | exact EqE_gd | refine cw (c2) ?_ | intro _) | (simp [*]) | (refine cw_eq (c2) ?_ ?_; (· (simp [*]; done))))
      all_goals try first | exact inI64 (by omega) (by omega) | omega
      refine ⟨awp_le (st' := ⟨[], bdH num rest, 9, 153⟩) (by refine le_gen [] ?_ ?_ <;> first | trivial | (simp [bdH]; done)) ?_⟩
      repeat' (first | (with_reducible first | refine awp_ret ?_ | refine awp_region ?_ | exact EqV_w | exact EqE_w | exact EqV_fn | exact EqE_fn | exact EqV_gd | exact EqE_gd | intro _) | (simp [*]))
      all_goals simp [RetA, resL, resA, oneOf]
      all_goals exact kh4
    have hn' : noneB w = false := by simpa using hn
    rw [hn'] at c2
    rw [if_neg hn] at h1 h2 h4
    by_cases hp : nth w 0 = wPlace
    · rw [if_pos hp] at h1 h2 h4
      by_cases hl : w.length = 2
      · have hlI : (w.length : Int) = 2 := by omega
        have hl1 : 1 < w.length := by omega
        rw [if_pos ⟨hl, trivial⟩] at h1
        have g1 := h1 _ rfl rfl rfl rfl
        simp only [ptQ_nil, rdQ_nil, List.append_nil, List.nil_append, List.length_nil, List.length_append, List.length_cons, Nat.zero_add, Nat.zero_mul] at g1
        have kh1 := keep g1
        clear g1 h1 h2 h4 hl hn hn'
        repeat' (first | (with_reducible first | refine stop_at (id := 6) ?_ | refine awp_seq ?_ | refine awp_blockS ?_ | refine awp_skip ?_ | refine awp_region ?_ | refine awp_regionS (id := 5) [0, 1, 2, 3, 4, 5, 6, 7, 8, 9] [10, 11, 12, 13, 14] [[.fld 0 25 0], [], [], [], [], [], [], [], [], []] [[.fld 0 25 0], [], [], [], [.slot 0]] mixed (by decide +kernel) ?_ | refine awp_condM ?_ | refine And.intro ?_ ?_ | exact EqV_w | exact EqE_w | exact EqV_fn | exact EqE_fn | exact EqV_gd | exact EqE_gd | refine cw (c2) ?_ | intro _) | (simp [*, hp, hlI, hl1]) | (refine cw_eq (c2) ?_ ?_; (· (simp [*]; done))))
        all_goals try first | exact inI64 (by omega) (by omega) | omega
        refine ⟨awp_le (st' := ⟨[], [(3, [.msl 6 (places.length + 1) 1 0 (places.length + 1), .msl 7 0 5 0 0, .msl 8 (T.length * 3) 3 0 T.length]), (4, [.w false false (.int .i64 num)]), (5, [.w false false (.str rest)]), (6, stA (places ++ [nth w 1])), (7, []), (8, toA T), (0, [nilA, nilA]), (1, [iZ]), (2, [iZ])], 9, 153⟩) (by refine le_gen [] ?_ ?_ <;> first | trivial | (simp [-stA_snoc, stA_app]; done)) ?_⟩
        repeat' (first | (with_reducible first | refine awp_ret ?_ | refine awp_region ?_ | exact EqV_w | exact EqE_w | exact EqV_fn | exact EqE_fn | exact EqV_gd | exact EqE_gd | intro _) | (simp [*]))
        all_goals simp [RetA, resL, resA, oneOf]
        all_goals exact kh1
      · rw [if_neg (fun e => hl e.1)] at h4
        have kh4 := keep (h4 rfl)
        clear h1 h2 h4 hn hn'
        have hlI : ¬ (w.length : Int) = 2 := by omega
        clear hl
        repeat' (first | (with_reducible first | refine stop_at (id := 21) ?_ | refine awp_seq ?_ | refine awp_blockS ?_ | refine awp_skip ?_ | refine awp_region ?_ | refine awp_condM ?_ | refine And.intro ?_ ?_ | exact EqV_w | exact EqE_w | exact EqV_fn | exact EqE_fn | exact EqV_gd | exact EqE_gd | refine cw (c2) ?_ | intro _) | (simp [*, hp, hpr, hpt, hlI]) | (refine cw_eq (c2) ?_ ?_; (· (simp [*]; done))))
        all_goals try first | exact inI64 (by omega) (by omega) | omega
        refine ⟨awp_le (st' := ⟨[], bdH num rest, 9, 153⟩) (by refine le_gen [] ?_ ?_ <;> first | trivial | (simp [bdH]; done)) ?_⟩
        repeat' (first | (with_reducible first | refine awp_ret ?_ | refine awp_region ?_ | exact EqV_w | exact EqE_w | exact EqV_fn | exact EqE_fn | exact EqV_gd | exact EqE_gd | intro _) | (simp [*]))
        all_goals simp [RetA, resL, resA, oneOf]
        all_goals exact kh4
    rw [if_neg hp] at h1 h2 h4
    by_cases hq : nth w 0 = wRoad
    · rw [if_pos hq] at h1 h2 h4
      by_cases hl : w.length = 5
      · have hlI : (w.length : Int) = 5 := by omega
        have hl1 : 1 < w.length := by omega
        have hl2 : 2 < w.length := by omega
        have hl3 : 3 < w.length := by omega
        have hl4 : 4 < w.length := by omega
        have hdr := drop_one hl4
        have c3 := numbers_c [nth w 4] (by simp) (fun j hj => by have : j = 0 := by simpa using hj
                                                                 subst this; exact ws 4 hl4) 1
        rw [if_pos hl] at h2 h4
        cases hv : numS (nth w 4) with
        | some v =>
          rw [num1_some hv] at c3
          rw [hv] at h2
          have g2 := h2 _ _ _ _ rfl
          try simp only [List.cons_append, List.nil_append, List.append_assoc] at g2
          have kh2 := keep g2
          clear g2 h1 h2 h4 hl hn hn' hv
          repeat' (first | (with_reducible first | refine stop_at (id := 13) ?_ | refine awp_seq ?_ | refine awp_blockS ?_ | refine awp_skip ?_ | refine awp_region ?_ | refine awp_regionS (id := 11) [0, 1, 2, 3, 4, 5, 6, 7, 8, 9, 10, 11, 12, 13] [14, 15, 16, 17, 18] [[.fld 0 25 1], [], [], [], [], [], [], [], [], [], [], [], [], []] [[.fld 0 25 1], [], [], [], [.slot 0]] mixed (by decide +kernel) ?_ | refine awp_regionS (id := 12) [0, 1, 2, 3, 4, 5, 6, 7, 8, 9, 10, 11, 12, 13] [14, 15, 16, 17] [[.fld 0 75 1], [], [], [], [], [], [], [], [], [], [], [], [], []] [[.fld 0 75 1], [], [], [.slot 0]] mixed (by decide +kernel) ?_ | refine awp_condM ?_ | refine And.intro ?_ ?_ | exact EqV_w | exact EqE_w | exact EqV_fn | exact EqE_fn | exact EqV_gd | exact EqE_gd | refine cw (c2) ?_ | refine cw (c3) ?_ | intro _) | (simp [*, hq, hrp, hlI, hl1, hl2, hl3, hl4, hdr]) | (refine cw_eq (c2) ?_ ?_; (· (simp [*]; done))) | (refine cw_eq (c3) ?_ ?_; (· (simp [*]; done))))
          all_goals try first | exact inI64 (by omega) (by omega) | omega
          refine ⟨awp_le (st' := ⟨[], [(3, [.msl 6 places.length 1 0 places.length, .msl 7 (0 * 5 + 5) 5 0 (0 + 1), .msl 8 (T.length * 3 + 3) 3 0 (T.length + 1)]), (4, [.w false false (.int .i64 num)]), (5, [.w false false (.str rest)]), (6, stA places), (7, [] ++ neR (nth w 1) v), (8, toA T ++ [.w false false (.int .i64 k), .w false false (.str (nth w 2)), .w false false (.str (nth w 3))]), (0, [nilA, nilA]), (1, [iZ]), (2, [iZ])], 9, 153⟩) (by refine le_gen [] ?_ ?_ <;> first | trivial | (simp [laQ, neR, Nat.add_mul]; done)) ?_⟩
          repeat' (first | (with_reducible first | refine awp_ret ?_ | refine awp_region ?_ | exact EqV_w | exact EqE_w | exact EqV_fn | exact EqE_fn | exact EqV_gd | exact EqE_gd | intro _) | (simp [*]))
          all_goals simp [RetA, resL, resA, oneOf]
          all_goals exact kh2
        | none =>
          rw [num1_none hv] at c3
          rw [hv] at h4
          have kh4 := keep (h4 rfl)
          clear h1 h2 h4 hl hn hn' hv
          repeat' (first | (with_reducible first | refine stop_at (id := 10) ?_ | refine awp_seq ?_ | refine awp_blockS ?_ | refine awp_skip ?_ | refine awp_region ?_ | refine awp_condM ?_ | refine And.intro ?_ ?_ | exact EqV_w | exact EqE_w | exact EqV_fn | exact EqE_fn | exact EqV_gd | exact EqE_gd | refine cw (c2) ?_ | refine cw (c3) ?_ | intro _) | (simp [*, hq, hrp, hlI, hl1, hl2, hl3, hl4, hdr]) | (refine cw_eq (c2) ?_ ?_; (· (simp [*]; done))) | (refine cw_eq (c3) ?_ ?_; (· (simp [*]; done))))
          all_goals try first | exact inI64 (by omega) (by omega) | omega
          refine ⟨awp_le (st' := ⟨[], bdH num rest, 9, 153⟩) (by refine le_gen [] ?_ ?_ <;> first | trivial | (simp [bdH]; done)) ?_⟩
          repeat' (first | (with_reducible first | refine awp_ret ?_ | refine awp_region ?_ | exact EqV_w | exact EqE_w | exact EqV_fn | exact EqE_fn | exact EqV_gd | exact EqE_gd | intro _) | (simp [*]))
          all_goals simp [RetA, resL, resA, oneOf]
          all_goals exact kh4
      · rw [if_neg hl] at h4
        have kh4 := keep (h4 rfl)
        clear h1 h2 h4 hn hn'
        have hlI : ¬ (w.length : Int) = 5 := by omega
        clear hl
        repeat' (first | (with_reducible first | refine stop_at (id := 21) ?_ | refine awp_seq ?_ | refine awp_blockS ?_ | refine awp_skip ?_ | refine awp_region ?_ | refine awp_condM ?_ | refine And.intro ?_ ?_ | exact EqV_w | exact EqE_w | exact EqV_fn | exact EqE_fn | exact EqV_gd | exact EqE_gd | refine cw (c2) ?_ | intro _) | (simp [*, hq, hrp, hrt, hlI]) | (refine cw_eq (c2) ?_ ?_; (· (simp [*]; done))))
        all_goals try first | exact inI64 (by omega) (by omega) | omega
        refine ⟨awp_le (st' := ⟨[], bdH num rest, 9, 153⟩) (by refine le_gen [] ?_ ?_ <;> first | trivial | (simp [bdH]; done)) ?_⟩
        repeat' (first | (with_reducible first | refine awp_ret ?_ | refine awp_region ?_ | exact EqV_w | exact EqE_w | exact EqV_fn | exact EqE_fn | exact EqV_gd | exact EqE_gd | intro _) | (simp [*]))
        all_goals simp [RetA, resL, resA, oneOf]
        all_goals exact kh4
    rw [if_neg hq] at h1 h2 h4
    by_cases ht : nth w 0 = wTime
    · rw [if_neg (fun e => e.2.2 rfl)] at h4
      have kh4 := keep (h4 rfl)
      clear h1 h2 h4 hn hn'
      repeat' (first | (with_reducible first | refine stop_at (id := 21) ?_ | refine awp_seq ?_ | refine awp_blockS ?_ | refine awp_skip ?_ | refine awp_region ?_ | refine awp_condM ?_ | refine And.intro ?_ ?_ | exact EqV_w | exact EqE_w | exact EqV_fn | exact EqE_fn | exact EqV_gd | exact EqE_gd | refine cw (c2) ?_ | intro _) | (simp [*, ht, htp, htr]) | (refine cw_eq (c2) ?_ ?_; (· (simp [*]; done))))
      all_goals try first | exact inI64 (by omega) (by omega) | omega
      refine ⟨awp_le (st' := ⟨[], bdH num rest, 9, 153⟩) (by refine le_gen [] ?_ ?_ <;> first | trivial | (simp [bdH]; done)) ?_⟩
      repeat' (first | (with_reducible first | refine awp_ret ?_ | refine awp_region ?_ | exact EqV_w | exact EqE_w | exact EqV_fn | exact EqE_fn | exact EqV_gd | exact EqE_gd | intro _) | (simp [*]))
      all_goals simp [RetA, resL, resA, oneOf]
      all_goals exact kh4
    · rw [if_neg (fun e => ht e.1)] at h4
      have kh4 := keep (h4 rfl)
      clear h1 h2 h4 hn hn'
      repeat' (first | (with_reducible first | refine stop_at (id := 21) ?_ | refine awp_seq ?_ | refine awp_blockS ?_ | refine awp_skip ?_ | refine awp_region ?_ | refine awp_condM ?_ | refine And.intro ?_ ?_ | exact EqV_w | exact EqE_w | exact EqV_fn | exact EqE_fn | exact EqV_gd | exact EqE_gd | refine cw (c2) ?_ | intro _) | (simp [*, ht, hp, hq]) | (refine cw_eq (c2) ?_ ?_; (· (simp [*]; done))))
      all_goals try first | exact inI64 (by omega) (by omega) | omega
      refine ⟨awp_le (st' := ⟨[], bdH num rest, 9, 153⟩) (by refine le_gen [] ?_ ?_ <;> first | trivial | (simp [bdH]; done)) ?_⟩
      repeat' (first | (with_reducible first | refine awp_ret ?_ | refine awp_region ?_ | exact EqV_w | exact EqE_w | exact EqV_fn | exact EqE_fn | exact EqV_gd | exact EqE_gd | intro _) | (simp [*]))
      all_goals simp [RetA, resL, resA, oneOf]
      all_goals exact kh4
  · rw [List.concat_eq_append] at hr
    subst hr
    simp only [ptQ_snoc, rdQ_snoc, List.length_append, List.length_cons, List.length_nil, Nat.zero_add, Nat.add_assoc, Nat.reduceAdd] at *
    by_cases hn : noneB w = true
    · rw [if_pos hn] at h4
      have kh4 := keep (h4 rfl)
      clear h1 h2 h4
      rw [hn] at c2
      repeat' (first | (with_reducible first | refine stop_at (id := 2) ?_ | refine awp_seq ?_ | refine awp_region ?_ | refine awp_condM ?_ | refine And.intro ?_ ?_ | exact EqV_w | exact EqE_w | exact EqV_fn | exact EqE_fn | exact EqV_gd | exact EqE_gd | refine cw (c2) ?_ | intro _) | (simp [*]) | (refine cw_eq (c2) ?_ ?_; (· (simp [*]; done))))
      all_goals try first | exact inI64 (by omega) (by omega) | omega
      refine ⟨awp_le (st' := ⟨[], bdH num rest, l.length + 10, 153⟩) (by refine le_gen [] ?_ ?_ <;> first | trivial | (simp [bdH]; done)) ?_⟩
      repeat' (first | (with_reducible first | refine awp_ret ?_ | refine awp_region ?_ | exact EqV_w | exact EqE_w | exact EqV_fn | exact EqE_fn | exact EqV_gd | exact EqE_gd | intro _) | (simp [*]))
      all_goals simp [RetA, resL, resA, oneOf]
      all_goals exact kh4
    have hn' : noneB w = false := by simpa using hn
    rw [hn'] at c2
    rw [if_neg hn] at h1 h2 h4
    by_cases hp : nth w 0 = wPlace
    · rw [if_pos hp] at h1 h2 h4
      by_cases hl : w.length = 2
      · have hlI : (w.length : Int) = 2 := by omega
        have hl1 : 1 < w.length := by omega
        rw [if_neg (fun e => by simp at e)] at h4
        have kh4 := keep (h4 rfl)
        clear h1 h2 h4 hl hn hn'
        have hr0 : ¬ (l.length : Int) + 1 = 0 := by omega
        repeat' (first | (with_reducible first | refine stop_at (id := 21) ?_ | refine awp_seq ?_ | refine awp_blockS ?_ | refine awp_skip ?_ | refine awp_region ?_ | refine awp_condM ?_ | refine And.intro ?_ ?_ | exact EqV_w | exact EqE_w | exact EqV_fn | exact EqE_fn | exact EqV_gd | exact EqE_gd | refine cw (c2) ?_ | intro _) | (simp [*, hp, hpr, hpt, hlI, hl1, hr0]) | (refine cw_eq (c2) ?_ ?_; (· (simp [*]; done))))
        all_goals try first | exact inI64 (by omega) (by omega) | omega
        refine ⟨awp_le (st' := ⟨[], bdH num rest, l.length + 10, 153⟩) (by refine le_gen [] ?_ ?_ <;> first | trivial | (simp [bdH]; done)) ?_⟩
        repeat' (first | (with_reducible first | refine awp_ret ?_ | refine awp_region ?_ | exact EqV_w | exact EqE_w | exact EqV_fn | exact EqE_fn | exact EqV_gd | exact EqE_gd | intro _) | (simp [*]))
        all_goals simp [RetA, resL, resA, oneOf]
        all_goals exact kh4
      · rw [if_neg (fun e => hl e.1)] at h4
        have kh4 := keep (h4 rfl)
        clear h1 h2 h4 hn hn'
        have hlI : ¬ (w.length : Int) = 2 := by omega
        clear hl
        repeat' (first | (with_reducible first | refine stop_at (id := 21) ?_ | refine awp_seq ?_ | refine awp_blockS ?_ | refine awp_skip ?_ | refine awp_region ?_ | refine awp_condM ?_ | refine And.intro ?_ ?_ | exact EqV_w | exact EqE_w | exact EqV_fn | exact EqE_fn | exact EqV_gd | exact EqE_gd | refine cw (c2) ?_ | intro _) | (simp [*, hp, hpr, hpt, hlI]) | (refine cw_eq (c2) ?_ ?_; (· (simp [*]; done))))
        all_goals try first | exact inI64 (by omega) (by omega) | omega
        refine ⟨awp_le (st' := ⟨[], bdH num rest, l.length + 10, 153⟩) (by refine le_gen [] ?_ ?_ <;> first | trivial | (simp [bdH]; done)) ?_⟩
        repeat' (first | (with_reducible first | refine awp_ret ?_ | refine awp_region ?_ | exact EqV_w | exact EqE_w | exact EqV_fn | exact EqE_fn | exact EqV_gd | exact EqE_gd | intro _) | (simp [*]))
        all_goals simp [RetA, resL, resA, oneOf]
        all_goals exact kh4
    rw [if_neg hp] at h1 h2 h4
    by_cases hq : nth w 0 = wRoad
    · rw [if_pos hq] at h1 h2 h4
      by_cases hl : w.length = 5
      · have hlI : (w.length : Int) = 5 := by omega
        have hl1 : 1 < w.length := by omega
        have hl2 : 2 < w.length := by omega
        have hl3 : 3 < w.length := by omega
        have hl4 : 4 < w.length := by omega
        have hdr := drop_one hl4
        have c3 := numbers_c [nth w 4] (by simp) (fun j hj => by have : j = 0 := by simpa using hj
                                                                 subst this; exact ws 4 hl4) 1
        rw [if_pos hl] at h2 h4
        cases hv : numS (nth w 4) with
        | some v =>
          rw [num1_some hv] at c3
          rw [hv] at h2
          have g2 := h2 _ _ _ _ rfl
          try simp only [List.cons_append, List.nil_append, List.append_assoc] at g2
          have kh2 := keep g2
          clear g2 h1 h2 h4 hl hn hn' hv
          repeat' (first | (with_reducible first | refine stop_at (id := 13) ?_ | refine awp_seq ?_ | refine awp_blockS ?_ | refine awp_skip ?_ | refine awp_region ?_ | refine awp_regionS (id := 11) [0, 1, 2, 3, 4, 5, 6, 7, 8, 9, 10, 11, 12, 13] [14, 15, 16, 17, 18] [[.fld 0 25 1], [], [], [], [], [], [], [], [], [], [], [], [], []] [[.fld 0 25 1], [], [], [], [.slot 0]] mixed (by decide +kernel) ?_ | refine awp_regionS (id := 12) [0, 1, 2, 3, 4, 5, 6, 7, 8, 9, 10, 11, 12, 13] [14, 15, 16, 17] [[.fld 0 75 1], [], [], [], [], [], [], [], [], [], [], [], [], []] [[.fld 0 75 1], [], [], [.slot 0]] mixed (by decide +kernel) ?_ | refine awp_condM ?_ | refine And.intro ?_ ?_ | exact EqV_w | exact EqE_w | exact EqV_fn | exact EqE_fn | exact EqV_gd | exact EqE_gd | refine cw (c2) ?_ | refine cw (c3) ?_ | intro _) | (simp [*, hq, hrp, hlI, hl1, hl2, hl3, hl4, hdr]) | (refine cw_eq (c2) ?_ ?_; (· (simp [*]; done))) | (refine cw_eq (c3) ?_ ?_; (· (simp [*]; done))))
          all_goals try first | exact inI64 (by omega) (by omega) | omega
          refine ⟨awp_le (st' := ⟨[], [(3, [.msl 6 places.length 1 0 places.length, .msl 7 ((l.length + 1) * 5 + 5) 5 0 ((l.length + 1) + 1), .msl 8 (T.length * 3 + 3) 3 0 (T.length + 1)]), (4, [.w false false (.int .i64 num)]), (5, [.w false false (.str rest)]), (6, stA places), (7, (roA l ++ laQ (l.length + 9) r) ++ neR (nth w 1) v), (8, toA T ++ [.w false false (.int .i64 k), .w false false (.str (nth w 2)), .w false false (.str (nth w 3))]), (0, [nilA, nilA]), (1, [iZ]), (2, [iZ])] ++ [(l.length + 9, ptA r.pts)], l.length + 10, 153⟩) (by refine le_gen [] ?_ ?_ <;> first | trivial | (simp [laQ, neR, Nat.add_mul]; done)) ?_⟩
          repeat' (first | (with_reducible first | refine awp_ret ?_ | refine awp_region ?_ | exact EqV_w | exact EqE_w | exact EqV_fn | exact EqE_fn | exact EqV_gd | exact EqE_gd | intro _) | (simp [*]))
          all_goals simp [RetA, resL, resA, oneOf]
          all_goals exact kh2
        | none =>
          rw [num1_none hv] at c3
          rw [hv] at h4
          have kh4 := keep (h4 rfl)
          clear h1 h2 h4 hl hn hn' hv
          repeat' (first | (with_reducible first | refine stop_at (id := 10) ?_ | refine awp_seq ?_ | refine awp_blockS ?_ | refine awp_skip ?_ | refine awp_region ?_ | refine awp_condM ?_ | refine And.intro ?_ ?_ | exact EqV_w | exact EqE_w | exact EqV_fn | exact EqE_fn | exact EqV_gd | exact EqE_gd | refine cw (c2) ?_ | refine cw (c3) ?_ | intro _) | (simp [*, hq, hrp, hlI, hl1, hl2, hl3, hl4, hdr]) | (refine cw_eq (c2) ?_ ?_; (· (simp [*]; done))) | (refine cw_eq (c3) ?_ ?_; (· (simp [*]; done))))
          all_goals try first | exact inI64 (by omega) (by omega) | omega
          refine ⟨awp_le (st' := ⟨[], bdH num rest, l.length + 10, 153⟩) (by refine le_gen [] ?_ ?_ <;> first | trivial | (simp [bdH]; done)) ?_⟩
          repeat' (first | (with_reducible first | refine awp_ret ?_ | refine awp_region ?_ | exact EqV_w | exact EqE_w | exact EqV_fn | exact EqE_fn | exact EqV_gd | exact EqE_gd | intro _) | (simp [*]))
          all_goals simp [RetA, resL, resA, oneOf]
          all_goals exact kh4
      · rw [if_neg hl] at h4
        have kh4 := keep (h4 rfl)
        clear h1 h2 h4 hn hn'
        have hlI : ¬ (w.length : Int) = 5 := by omega
        clear hl
        repeat' (first | (with_reducible first | refine stop_at (id := 21) ?_ | refine awp_seq ?_ | refine awp_blockS ?_ | refine awp_skip ?_ | refine awp_region ?_ | refine awp_condM ?_ | refine And.intro ?_ ?_ | exact EqV_w | exact EqE_w | exact EqV_fn | exact EqE_fn | exact EqV_gd | exact EqE_gd | refine cw (c2) ?_ | intro _) | (simp [*, hq, hrp, hrt, hlI]) | (refine cw_eq (c2) ?_ ?_; (· (simp [*]; done))))
        all_goals try first | exact inI64 (by omega) (by omega) | omega
        refine ⟨awp_le (st' := ⟨[], bdH num rest, l.length + 10, 153⟩) (by refine le_gen [] ?_ ?_ <;> first | trivial | (simp [bdH]; done)) ?_⟩
        repeat' (first | (with_reducible first | refine awp_ret ?_ | refine awp_region ?_ | exact EqV_w | exact EqE_w | exact EqV_fn | exact EqE_fn | exact EqV_gd | exact EqE_gd | intro _) | (simp [*]))
        all_goals simp [RetA, resL, resA, oneOf]
        all_goals exact kh4
    rw [if_neg hq] at h1 h2 h4
    by_cases ht : nth w 0 = wTime
    · have hlen1 : (0 : Int) < (l.length : Int) + 1 := by omega
      by_cases hl : w.length = 4
      · have hlI : (w.length : Int) = 4 := by omega
        have hd3 : List.take 3 (strP w).tail = strP [nth w 1, nth w 2, nth w 3] := by rw [← List.drop_one, strP_drop, drop_three hl]; rfl
        have c3 := numbers_c [nth w 1, nth w 2, nth w 3] (by simp) (fun j hj => by
          match j, hj with
          | 0, _ => exact ws 1 (by omega)
          | 1, _ => exact ws 2 (by omega)
          | 2, _ => exact ws 3 (by omega)) 3
        rw [if_pos ⟨ht, hl, by simp⟩] at h1 h4
        rcases num3_all (nth w 1) (nth w 2) (nth w 3) with ⟨u, v, q, e1, e2, e3, e4⟩ | ⟨e4, e5⟩
        · rw [e4] at c3
          rw [e1, e2, e3] at h1
          have g1 := h1 _ rfl rfl rfl (by rw [addP_snoc]; simp)
          simp only [addP_snoc, rdQ_snoc, ptQ_snoc, ptA_snoc, laQ, List.length_append, List.length_cons, List.length_nil, Nat.zero_add, List.cons_append, List.nil_append] at g1
          have kh1 := keep g1
          have hptr : r.pts.length < 1000 := pt r (by simp)
          have hgt := rdQ_get (l.length + 9) l r
          have hst := rdQ_set (l.length + 9) l r
          have kws := keep ws
          clear g1 h1 h2 h4 hn hn' hl e1 e2 e3 e4 pt ws
          repeat' (first | (with_reducible first | refine stop_at (id := 20) ?_ | refine awp_seq ?_ | refine awp_blockS ?_ | refine awp_skip ?_ | refine awp_region ?_ | refine awp_regionD (id := 18) 14 mixed (by decide +kernel) ?_ | refine awp_regionS (id := 19) [0, 1, 2, 3, 4, 5, 6, 7, 8, 9, 10, 11, 12, 13, 14, 15, 16] [17, 18, 19, 20] [[.fld 12 55 4], [], [], [], [], [], [], [], [], [], [], [], [], [], [], [], []] [[.fld 12 55 4], [], [], [.slot 12]] mixed (by decide +kernel) ?_ | refine awp_condM ?_ | refine And.intro ?_ ?_ | exact EqV_w | exact EqE_w | exact EqV_fn | exact EqE_fn | exact EqV_gd | exact EqE_gd | refine cw (c2) ?_ | refine cw (c3) ?_ | intro _) | (simp [*, ht, htp, htr, hlI, hd3, hlen1, hgt, hst]) | (refine cw_eq (c2) ?_ ?_; (· (simp [*]; done))) | (refine cw_eq (c3) ?_ ?_; (· (simp [*]; done))))
          all_goals try first | exact inI64 (by omega) (by omega) | omega
          have hm3 : (r.pts.length + 1) * 3 = r.pts.length * 3 + 3 := by omega
          refine ⟨awp_le (st' := ⟨[], [(3, [.msl 6 places.length 1 0 places.length, .msl 7 ((l.length + 1) * 5) 5 0 (l.length + 1), .msl 8 (T.length * 3) 3 0 T.length]), (4, [.w false false (.int .i64 num)]), (5, [.w false false (.str rest)]), (6, stA places), (7, roA l ++ [.w false false (.str r.name), .w false false (.int .i64 r.frm), .w false false (.int .i64 r.to), .w false false (.int .i64 r.metres), .msl (l.length + 9) ((r.pts.length + 1) * 3) 3 0 (r.pts.length + 1)]), (8, toA T), (0, [nilA, nilA]), (1, [iZ]), (2, [iZ]), (l.length + 9, ptA r.pts ++ [.w false false (.int .i64 u), .w false false (.int .i64 v), .w false false (.int .i64 q)])], l.length + 10, 153⟩) (by refine le_gen [] ?_ ?_ <;> first | trivial | (simp [hm3]; done)) ?_⟩
          clear hm3
          repeat' (first | (with_reducible first | refine awp_ret ?_ | refine awp_region ?_ | exact EqV_w | exact EqE_w | exact EqV_fn | exact EqE_fn | exact EqV_gd | exact EqE_gd | intro _) | (simp [*]))
          all_goals simp [RetA, resL, resA, oneOf]
          all_goals exact kh1
        · rw [e4] at c3
          have kh4 := keep (h4 (e5 _))
          clear h1 h2 h4 hn hn' hl e4 e5
          repeat' (first | (with_reducible first | refine stop_at (id := 17) ?_ | refine awp_seq ?_ | refine awp_blockS ?_ | refine awp_skip ?_ | refine awp_region ?_ | refine awp_condM ?_ | refine And.intro ?_ ?_ | exact EqV_w | exact EqE_w | exact EqV_fn | exact EqE_fn | exact EqV_gd | exact EqE_gd | refine cw (c2) ?_ | refine cw (c3) ?_ | intro _) | (simp [*, ht, htp, htr, hlI, hd3, hlen1]) | (refine cw_eq (c2) ?_ ?_; (· (simp [*]; done))) | (refine cw_eq (c3) ?_ ?_; (· (simp [*]; done))))
          all_goals try first | exact inI64 (by omega) (by omega) | omega
          refine ⟨awp_le (st' := ⟨[], bdH num rest, l.length + 10, 153⟩) (by refine le_gen [] ?_ ?_ <;> first | trivial | (simp [bdH]; done)) ?_⟩
          repeat' (first | (with_reducible first | refine awp_ret ?_ | refine awp_region ?_ | exact EqV_w | exact EqE_w | exact EqV_fn | exact EqE_fn | exact EqV_gd | exact EqE_gd | intro _) | (simp [*]))
          all_goals simp [RetA, resL, resA, oneOf]
          all_goals exact kh4
      · rw [if_neg (fun e => hl e.2.1)] at h4
        have kh4 := keep (h4 rfl)
        obtain ⟨L, hL⟩ := num3_bad (w := w.drop 1) (by rw [List.length_drop]; omega)
        have c3 := numbers_c (w.drop 1) (by rw [List.length_drop]; omega) (fun j hj => by
          rw [List.length_drop] at hj
          have e : nth (w.drop 1) j = nth w (1 + j) := by simp [nth, List.getD_eq_getElem?_getD, Nat.add_comm]
          rw [e]
          exact ws (1 + j) (by omega)) 3
        rw [hL, List.length_drop] at c3
        have hdt : List.take (w.length - 1) (strP w).tail = strP w.tail := by rw [← List.drop_one, strP_drop, strP_take, List.take_of_length_le (by rw [List.length_drop]; omega), List.drop_one]
        rw [List.drop_one] at c3
        have hw1 : (1 : Int) ≤ (w.length : Int) := by omega
        clear h1 h2 h4 hn hn' hl hL
        repeat' (first | (with_reducible first | refine stop_at (id := 17) ?_ | refine awp_seq ?_ | refine awp_blockS ?_ | refine awp_skip ?_ | refine awp_region ?_ | refine awp_condM ?_ | refine And.intro ?_ ?_ | exact EqV_w | exact EqE_w | exact EqV_fn | exact EqE_fn | exact EqV_gd | exact EqE_gd | refine cw (c2) ?_ | refine cw (c3) ?_ | intro _) | (simp [*, ht, htp, htr, hdt, hlen1, hw1]) | (refine cw_eq (c2) ?_ ?_; (· (simp [*]; done))) | (refine cw_eq (c3) ?_ ?_; (· (simp [*]; done))))
        all_goals try first | exact inI64 (by omega) (by omega) | omega
        refine ⟨awp_le (st' := ⟨[], bdH num rest, l.length + 10, 153⟩) (by refine le_gen [] ?_ ?_ <;> first | trivial | (simp [bdH]; done)) ?_⟩
        repeat' (first | (with_reducible first | refine awp_ret ?_ | refine awp_region ?_ | exact EqV_w | exact EqE_w | exact EqV_fn | exact EqE_fn | exact EqV_gd | exact EqE_gd | intro _) | (simp [*]))
        all_goals simp [RetA, resL, resA, oneOf]
        all_goals exact kh4
    · rw [if_neg (fun e => ht e.1)] at h4
      have kh4 := keep (h4 rfl)
      clear h1 h2 h4 hn hn'
      repeat' (first | (with_reducible first | refine stop_at (id := 21) ?_ | refine awp_seq ?_ | refine awp_blockS ?_ | refine awp_skip ?_ | refine awp_region ?_ | refine awp_condM ?_ | refine And.intro ?_ ?_ | exact EqV_w | exact EqE_w | exact EqV_fn | exact EqE_fn | exact EqV_gd | exact EqE_gd | refine cw (c2) ?_ | intro _) | (simp [*, ht, hp, hq]) | (refine cw_eq (c2) ?_ ?_; (· (simp [*]; done))))
      all_goals try first | exact inI64 (by omega) (by omega) | omega
      refine ⟨awp_le (st' := ⟨[], bdH num rest, l.length + 10, 153⟩) (by refine le_gen [] ?_ ?_ <;> first | trivial | (simp [bdH]; done)) ?_⟩
      repeat' (first | (with_reducible first | refine awp_ret ?_ | refine awp_region ?_ | exact EqV_w | exact EqE_w | exact EqV_fn | exact EqE_fn | exact EqV_gd | exact EqE_gd | intro _) | (simp [*]))
      all_goals simp [RetA, resL, resA, oneOf]
      all_goals exact kh4
end Go.Proofs.YtfpamehamllndaaGreatDoor

