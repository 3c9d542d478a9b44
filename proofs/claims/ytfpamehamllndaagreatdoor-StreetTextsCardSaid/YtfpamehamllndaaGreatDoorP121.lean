/- Contracts of functions for this claim: lemmas alone. -/
import Derived.Test.YtfpamehamllndaaGreatDoorP119
import Derived.Test.YtfpamehamllndaaGreatDoorLm
import Derived.Test.YtfpamehamllndaaGreatDoorLbl
set_option linter.unusedSimpArgs false
set_option linter.unusedVariables false
namespace Go.Proofs.YtfpamehamllndaaGreatDoor
open Go Go.Fi Go.RowKit Go.Shelf
set_option maxRecDepth 20000

/-! ### the program reads a net -/
structure PIn (t : ByteArray) : Prop where
  sz : t.size ≤ 60000
  ln : (pieces t nl1).length ≤ 900
  wl : ∀ x ∈ pieces t nl1, (pieces x sp1).length < 1000 ∧ ∀ y ∈ pieces x sp1, y.size < 1000
theorem PIn.line {d : Dr} {i : Nat} (h : DrIn d i) (hi : i ≤ 900) {x : ByteArray} (hw : (pieces x sp1).length < 1000 ∧ ∀ y ∈ pieces x sp1, y.size < 1000) : RLineIn d (pieces x sp1) := by
  refine ⟨hw.1, pieces_ne x 32, fun j hj => hw.2 _ (nth_memA _ j hj), ?_, ?_, ?_, fun r hr => ?_⟩
  · have := h.np; omega
  · have := h.nr; omega
  · have := h.nr; have := h.ne; omega
  · have := h.pt r hr; omega
def toldS (d : Dr) : List (Int × ByteArray × ByteArray) := d.at_.zip d.ends
def lnI (lp : Nat) (x : Nat × Dr × ByteArray) : St := ⟨[(0, .w false false (.yl lp)), (1, .ptr 5 1 0)], prH x.2.1 (toldS x.2.1) x.1 x.2.2, x.2.1.roads.length + 9, 25⟩

section
variable (d : Dr) (T : List (Int × ByteArray × ByteArray)) (num : Int) (rest : ByteArray)
@[simp] theorem prH_0 : hget (prH d T num rest) 0 = some [nilA, nilA] := rfl
@[simp] theorem prH_1 : hget (prH d T num rest) 1 = some [iZ] := rfl
@[simp] theorem prH_2 : hget (prH d T num rest) 2 = some [iZ] := rfl
@[simp] theorem prH_4 : hget (prH d T num rest) 4 = some [.w false false (.int .i64 num)] := rfl
@[simp] theorem prH_5 : hget (prH d T num rest) 5 = some [.w false false (.str rest)] := rfl
@[simp] theorem prH_s4 (x : Int) : hset (prH d T num rest) 4 [.w false false (.int .i64 x)] = prH d T x rest := rfl
@[simp] theorem prH_s5 (s : ByteArray) : hset (prH d T num rest) 5 [.w false false (.str s)] = prH d T num s := rfl
variable (k : Int) (x y z : ByteArray) (v : Int)
@[simp] theorem nwH_0 : hget (nwH d T num rest k x y z v) 0 = some [nilA, nilA] := rfl
@[simp] theorem nwH_1 : hget (nwH d T num rest k x y z v) 1 = some [iZ] := rfl
@[simp] theorem nwH_2 : hget (nwH d T num rest k x y z v) 2 = some [iZ] := rfl
@[simp] theorem nwH_4 : hget (nwH d T num rest k x y z v) 4 = some [.w false false (.int .i64 num)] := rfl
@[simp] theorem nwH_5 : hget (nwH d T num rest k x y z v) 5 = some [.w false false (.str rest)] := rfl
end
theorem le_env {fk : Fk} {env : Env} {h : Heap} {n nt : Nat} : Lek fk ⟨env, h, n, nt⟩ ⟨[], h, n, nt⟩ :=
  fun _ _ _ _ m hs => ⟨m, hs.base, hs.below, hs.defers, hs.size, fun _ => .w (.undef _) (fun h => by cases h), hs.heap, hs.dom, hs.ids, hs.fr⟩

theorem get_in : ∀ (env : Env) (t : Nat), Fi.get env t = .w false false .undef ∨ (t, Fi.get env t) ∈ env
  | [], _ => .inl rfl
  | (k, v) :: r, t => by
    simp only [Fi.get]
    by_cases h : k = t
    · subst h; rw [if_pos rfl]; exact .inr List.mem_cons_self
    · rw [if_neg h]
      rcases get_in r t with h1 | h1
      · exact .inl h1
      · exact .inr (List.mem_cons_of_mem _ h1)
theorem le_sub {fk : Fk} {env env' : Env} {h : Heap} {n nt : Nat} (hs : ∀ p ∈ env', Fi.get env p.1 = p.2) : Lek fk ⟨env, h, n, nt⟩ ⟨env', h, n, nt⟩ :=
  fun B w0 a w m hh => ⟨m, hh.base, hh.below, hh.defers, hh.size, fun t => by
    show RepA B (LB m h) m w (Fi.get env' t) (a.tmps.getD t undef)
    rcases get_in env' t with h1 | h1
    · rw [h1]; exact .w (.undef _) (fun h => by cases h)
    · have e := hs _ h1
      dsimp only at e
      rw [← e]; exact hh.env t, hh.heap, hh.dom, hh.ids, hh.fr⟩

def nwD (d : Dr) (k : Int) (x y z : ByteArray) (v : Int) : Dr := { d with roads := d.roads ++ [⟨x, 0, 0, v, []⟩], ends := d.ends ++ [(y, z)], at_ := d.at_ ++ [k] }
theorem told_new (d : Dr) (k : Int) (x y z : ByteArray) (v : Int) (h : d.at_.length = d.ends.length) : toldS (nwD d k x y z v) = toldS d ++ [(k, y, z)] := by
  unfold toldS nwD
  dsimp only
  rw [List.zip_append h]
  rfl
theorem nw_le {fk : Fk} {env : Env} {nt : Nat} (d : Dr) (hal : d.at_.length = d.ends.length) (num : Int) (rest : ByteArray) (k : Int) (x y z : ByteArray) (v : Int) (hk : fk.k ≤ d.roads.length + 10) :
    Lek fk ⟨env, nwH d (toldS d) num rest k x y z v, d.roads.length + 9, nt⟩ ⟨[], prH (nwD d k x y z v) (toldS (nwD d k x y z v)) num rest, d.roads.length + 10, nt⟩ := by
  rw [told_new d k x y z v hal]
  generalize toldS d = T
  unfold nwD nwH prH
  obtain ⟨places, roads, ends, at_⟩ := d
  dsimp only at *
  rcases List.eq_nil_or_concat roads with hr | ⟨l, r, hr⟩
  · subst hr
    refine le_gen [] ?_ ?_ hk
    · trivial
    · rw [show rdQ ([] ++ [(⟨x, 0, 0, v, []⟩ : Road)]) = laQ 9 ⟨x, 0, 0, v, []⟩ from rfl, show ptQ ([] ++ [(⟨x, 0, 0, v, []⟩ : Road)]) = [(9, [])] from rfl, rdQ_nil, ptQ_nil]
      simp [laQ, neR, toA_snoc, Nat.add_mul]
  · rw [List.concat_eq_append] at hr
    subst hr
    have e1 : rdQ (l ++ [r] ++ [(⟨x, 0, 0, v, []⟩ : Road)]) = roA (l ++ [r]) ++ laQ (l.length + 10) ⟨x, 0, 0, v, []⟩ := by rw [rdQ_snoc]; simp
    have e2 : ptQ (l ++ [r] ++ [(⟨x, 0, 0, v, []⟩ : Road)]) = [(l.length + 10, [])] := by rw [ptQ_snoc]; simp [ptA, cPts]
    have e3 : (l ++ [r] ++ [(⟨x, 0, 0, v, []⟩ : Road)]).length = l.length + 2 := by simp
    have e4 : (l ++ [r]).length = l.length + 1 := by simp
    rw [e1, e2, e3, e4, rdQ_snoc, ptQ_snoc]
    rw [e4] at hk
    refine le_gen [l.length + 9] ?_ ?_ hk
    · trivial
    · simp [laQ, neR, roA, cRoads, cRoad, toA_snoc, Nat.add_mul]

theorem pr_done {fk : Fk} {env : Env} {nt : Nat} (d : Dr) (T : List (Int × ByteArray × ByteArray)) (num : Int) (rest : ByteArray) (g2 : Fi.get env 2 = .ptr 0 2 0) (g3 : Fi.get env 3 = .ptr 1 1 0) (g4 : Fi.get env 4 = .ptr 2 1 0) (g5 : Fi.get env 5 = .ptr 3 3 0) (hk : fk.k ≤ 9) :
    Lek fk ⟨env, prH d T num rest, d.roads.length + 9, nt⟩ ⟨[(2, .ptr 0 2 0), (3, .ptr 1 1 0), (4, .ptr 2 1 0), (5, .ptr 3 3 0)], [(3, [.msl 6 d.places.length 1 0 d.places.length, .msl 7 (d.roads.length * 5) 5 0 d.roads.length, .msl 8 (T.length * 3) 3 0 T.length]), (6, stA d.places), (7, roA d.roads), (8, toA T), (0, [nilA, nilA]), (1, [iZ]), (2, [iZ])], 9, nt⟩ := by
  unfold prH
  obtain ⟨places, roads, ends, at_⟩ := d
  dsimp only at *
  rcases List.eq_nil_or_concat roads with hr | ⟨l, r, hr⟩
  · subst hr
    rw [rdQ_nil, ptQ_nil]
    refine le_gen [] ?_ ?_ hk
    · simp [g2, g3, g4, g5]
    · simp [roA, cRoads]
  · rw [List.concat_eq_append] at hr
    subst hr
    rw [rdQ_snoc, ptQ_snoc]
    refine le_gen [l.length + 9] ?_ ?_ hk
    · simp [g2, g3, g4, g5]
    · simp [roA, cRoads, cRoad, laQ]
theorem toA_drop : ∀ (l : List (Int × ByteArray × ByteArray)) (k : Nat), k < l.length → ((toA l).drop (k * 3)).take 3 = [.w false false (.int .i64 (nth l k).1), .w false false (.str (nth l k).2.1), .w false false (.str (nth l k).2.2)]
  | [], k, h => by simp at h
  | e :: l, 0, _ => rfl
  | e :: l, k + 1, h => by
    have ih := toA_drop l k (by simpa using h)
    rw [show (k + 1) * 3 = 3 + k * 3 by omega, ← List.drop_drop]
    exact ih
theorem told_len {d : Dr} (h : d.at_.length = d.ends.length) : (toldS d).length = d.ends.length := by unfold toldS; simp [h]
theorem told_nth {d : Dr} (h : d.at_.length = d.ends.length) (k : Nat) (hk : k < d.ends.length) : nth (toldS d) k = (nth d.at_ k, nth d.ends k) := by
  unfold toldS
  have h2 : k < d.at_.length := by omega
  have h3 : k < (d.at_.zip d.ends).length := by simp; omega
  simp [nth, List.getD_eq_getElem?_getD, List.getElem?_eq_getElem hk, List.getElem?_eq_getElem h2, List.getElem?_eq_getElem h3]

theorem index_d {d : Dr} {i : Nat} (h : DrIn d i) (hi : i < 1000) (s : ByteArray) : RealCall Tryz.prog 27 [.sl d.places.length (strP d.places), .str s] (.int .i64 (idxOf d.places s)) true := index_c d.places s (by have := h.np; omega)

set_option maxHeartbeats 16000000 in
theorem pParse_c (t : ByteArray) (h : PIn t) : RealCall Tryz.prog 8 [.str t] (.tup [aNet (parseN t).1, .int .i64 (parseN t).2.1, .int .i64 (parseN t).2.2]) false := by
  obtain ⟨hsz, hln, hwl⟩ := h
  have hpn : parseN t = resL' (pieces t nl1) := by unfold parseN resL' d0; rw [if_neg (by omega)]; cases linesD ⟨[], [], [], []⟩ 1 (pieces t nl1) with
    | inl k => rfl
    | inr d => dsimp only; cases endsD d.places d.roads d.ends d.at_ <;> rfl
  rw [hpn]
  clear hpn
  have hLn : 1 ≤ (pieces t nl1).length := pieces_ne t 10
  have htI : ¬ (60000 : Int) < (t.size : Int) := by omega
  have kwl := keep hwl
  obtain ⟨L, hL⟩ : ∃ L, pieces t nl1 = L := ⟨_, rfl⟩
  rw [hL] at hln hLn kwl
  rw [hL]
  generalize hR : resL' L = R
  have kR : Keep (resL' L = R) := keep hR
  have kL := keep hL
  clear hR hL hwl
  obtain ⟨N, e1, e2⟩ := R
  dsimp only
  unfold aNet cNet
  refine realcall_intro_r Tryz.func8 (by kernel_rfl) rfl (Nat.le_of_ble_eq_true (by kernel_rfl)) ?_
  simp only [Tryz.results8, Tryz.ntmps8]
  refine awr_seq (awr_of ?_)
  repeat' (first | (with_reducible first | refine awp_region ?_ | exact EqV_w | exact EqE_w | exact EqV_fn | exact EqE_fn | exact EqV_gd | exact EqE_gd | intro _) | (simp [*]))
  refine awr_seq (awr_of ?_)
  repeat' (first | (with_reducible first | refine awp_seq ?_ | refine awp_skip ?_ | refine awp_region ?_ | refine awp_condM ?_ | exact EqV_w | exact EqE_w | exact EqV_fn | exact EqE_fn | exact EqV_gd | exact EqE_gd | intro _) | (simp [*, htI]))
  refine awr_seq (awr_of ?_)
  repeat' (first | (with_reducible first | refine awp_region ?_ | exact EqV_w | exact EqE_w | exact EqV_fn | exact EqE_fn | exact EqV_gd | exact EqE_gd | intro _) | (simp [*]))
  refine awr_seq (awr_of ?_)
  repeat' (first | (with_reducible first | refine awp_region ?_ | exact EqV_w | exact EqE_w | exact EqV_fn | exact EqE_fn | exact EqV_gd | exact EqE_gd | intro _) | (simp [*]))
  refine awr_seq (awr_seq (awr_of ?_))
  repeat' (first | (with_reducible first | refine awp_regionJ (id := 5) 1 Tryz.func23 (by kernel_rfl) rfl (by decide) rfl ?_ | exact EqV_w | exact EqE_w | exact EqV_fn | exact EqE_fn | exact EqV_gd | exact EqE_gd | intro _) | (simp [*]))
  refine inlM_intro (Nat.le_of_ble_eq_true (by kernel_rfl)) (by simp) rfl ?_
  simp only [Tryz.results23, Tryz.ntmps23]
  repeat' (first | (with_reducible first | refine awp_seq ?_ | refine awp_ret ?_ | refine awp_region ?_ | exact EqV_w | exact EqE_w | exact EqV_fn | exact EqE_fn | exact EqV_gd | exact EqE_gd | intro _) | (simp [*]))
  simp [RetA, resL, resA, oneOf]
  repeat' (first | (with_reducible first | exact EqV_w | exact EqE_w | exact EqV_fn | exact EqE_fn | exact EqV_gd | exact EqE_gd | intro _) | (simp [*]))
  refine awr_le (st' := ⟨[(21, .fn 51 [.ptr 5 1 0]), (2, .ptr 0 2 0), (3, .ptr 1 1 0), (4, .ptr 2 1 0), (5, .ptr 3 3 0), (6, .ptr 4 1 0)], [(5, [.w false false (.str t)]), (4, [iZ]), (3, [nilA, nilA, nilA]), (2, [iZ]), (1, [iZ]), (0, [nilA, nilA])], 6, 97⟩) (le_gen [] (by simp) (by simp)) ?_
  refine awr_block (awr_range2 (gf := 51) (caps := [.ptr 5 1 0]) ?_ Tryz.func51 (by kernel_rfl) rfl (Nat.le_of_ble_eq_true (by kernel_rfl)) (fun lp => ?_))
  · rfl
  simp only [Tryz.results51, Tryz.ntmps51]
  refine awy_block (awy_loop (fun x : Nat × Dr × ByteArray => x.1 < L.length ∧ DrIn x.2.1 x.1 ∧ Keep (linesD d0 1 L = linesD x.2.1 ((x.1 : Int) + 1) (L.drop x.1)) ∧ Keep (pieces x.2.2 nl1 = L.drop x.1) ∧ x.2.2.size ≤ 60000) (lnI lp) (fun x => L.length - x.1) (0, d0, t) ?_ ?_ (fun x hx => ?_))
  · exact ⟨by omega, DrIn.zero, keep rfl, kL, hsz⟩
  · unfold lnI prH toldS d0
    dsimp only
    refine le_gen [] ?_ ?_ <;> first | trivial | (simp [ptQ_nil, rdQ_nil, toP, toA]; done)
  obtain ⟨j, d, r⟩ := x
  obtain ⟨hj, hin, hl, hp, hrz⟩ := hx
  dsimp only at hj hin hl hp hrz
  have kin := keep hin
  clear hin
  unfold lnI
  dsimp only
  by_cases hz : r.size = 0
  · have hzI : ¬ (0 : Int) < (r.size : Int) := by omega
    have hre : r = ⟨#[]⟩ := ba_ext (by rw [List.eq_nil_of_length_eq_zero (show r.data.toList.length = 0 by rw [ba_len]; exact hz)])
    have hll := keep (show linesD d0 1 L = .inr d by rw [show linesD d0 1 L = _ from hl, ← (show pieces r nl1 = _ from hp), hre, pieces_empty, linesD_nil])
    have hz0 : ¬ 0 < r.size := by omega
    clear hl hp hre
    refine awy_seq (awy_of ?_)
    repeat' (first | (with_reducible first | refine awp_seq ?_ | refine awp_exit ?_ | refine awp_region ?_ | refine awp_condM ?_ | exact EqV_w | exact EqE_w | exact EqV_fn | exact EqE_fn | exact EqV_gd | exact EqE_gd | intro _) | (simp [*, hzI, hz0]))
    simp [RetA, resL, resA, oneOf]
    refine awr_le (pr_done d (toldS d) _ r rfl rfl rfl rfl (Nat.zero_le _)) ?_
    refine awr_of ?_
    have hin : DrIn d j := kin
    have hres : resL' L = (N, e1, e2) := kR
    unfold resL' at hres
    rw [show linesD d0 1 L = .inr d from hll] at hres
    dsimp only at hres
    have hal : d.at_.length = d.ends.length := by rw [hin.na, hin.ne]
    have ck := index_d hin (by omega)
    have hni := netIn_zip hin (by omega)
    have eok := endsD_ok d.places d.roads d.ends d.at_ hin.ne hin.na
    have ebad := endsD_bad d.places d.roads d.ends d.at_
    have hne := hin.ne
    have hna := hin.na
    have hnr := hin.nr
    have htl := told_len hal
    have htn := told_nth hal
    have htd := toA_drop (toldS d)
    rw [htl] at htd
    rw [htl]
    generalize toldS d = T at *
    have kck := keep ck
    have kres := keep hres
    have keok := keep eok
    have khtn := keep htn
    have khtd := keep htd
    have kebad := keep (fun j => ebad j hne hna)
    clear ck hres eok ebad hin kR kL kwl kin hll hz hzI hz0 htn htd hal
    obtain ⟨places, roads, ends, at_⟩ := d
    dsimp only at *
    repeat' (first | (with_reducible first | refine awp_seq ?_ | refine awp_region ?_ | exact EqV_w | exact EqE_w | exact EqV_fn | exact EqE_fn | exact EqV_gd | exact EqE_gd | intro _) | (simp [*]))
    refine awp_for4 9 (fun (k : Nat) => k ≤ ends.length ∧ Keep (∀ j, j < k → okE places (nth ends j))) [2, 3, 4, 5, 42, 43] (fun (k : Nat) => [(44, .w false false (.int .i64 k))]) [3, 6, 8, 0, 1, 2] (fun (k : Nat) => [(7, roA (endK places roads ends k))]) (fun (k : Nat) => ends.length - k) (fun (_u : Unit) => Keep (∀ j, j < ends.length → okE places (nth ends j))) [2, 3, 4, 5] (fun (_u : Unit) => []) [3, 6, 8, 0, 1, 2] (fun (_u : Unit) => [(7, roA (List.zipWith (setE places) roads ends))]) (0) ⟨Nat.zero_le _, keep (fun j hj => absurd hj (Nat.not_lt_zero _))⟩ (le_gen [] (by simp [endK_zero]) (by simp [endK_zero])) (fun k hk => ?_) (fun _u hf => ?_)
    · obtain ⟨hk, hj2⟩ := hk
      by_cases hlt : k < ends.length
      · have hlt2 : k < roads.length := by omega
        have hlt3 : k < at_.length := by omega
        have hltI : (k : Int) < (roads.length : Int) := by omega
        have gl := endK_len places roads ends k hne
        have gn := (show ∀ k, k < ends.length → nth T k = (nth at_ k, nth ends k) from khtn) k hlt
        have gd := (show ∀ k, k < ends.length → ((toA T).drop (k * 3)).take 3 = _ from khtd) k hlt
        rw [gn] at gd
        have ck := (show ∀ s, RealCall _ _ _ _ _ from kck)
        by_cases hok : okE places (nth ends k)
        · have hgl := endK_succ places roads ends k hne hlt2
          have hle := roA_le2 (endK places roads ends k) k (idxOf places (nth ends k).1) (idxOf places (nth ends k).2) (by rw [gl]; exact hlt2)
          rw [endK_nth places roads ends k hne hlt2] at hle
          rw [show ({ nth roads k with frm := idxOf places (nth ends k).1, to := idxOf places (nth ends k).2 } : Road) = setE places (nth roads k) (nth ends k) from rfl, ← hgl] at hle
          have hjn := keep (show ∀ j, j < k + 1 → okE places (nth ends j) from fun j hjk => by
            rcases Nat.lt_or_ge j k with h | h
            · exact (show ∀ j, j < k → okE places (nth ends j) from hj2) j h
            · rw [show j = k by omega]; exact hok)
          unfold okE at hok
          obtain ⟨o1, o2⟩ := hok
          have n1 : ¬ idxOf places (nth ends k).1 < 0 := by omega
          have n2 : ¬ idxOf places (nth ends k).2 < 0 := by omega
          have kle := keep hle
          clear hj2 hgl o1 o2 hle gn
          repeat' (first | (with_reducible first | refine awp_seq ?_ | refine awp_blockS ?_ | refine awp_skip ?_ | refine awp_region ?_ | refine awp_regionD (id := 14) 14 mixed (by decide +kernel) ?_ | refine awp_condM ?_ | refine And.intro ?_ ?_ | exact EqV_w | exact EqE_w | exact EqV_fn | exact EqE_fn | exact EqV_gd | exact EqE_gd | refine cw (ck _) ?_ | intro _) | (simp [*, hltI, hlt, hlt2, gd, gl, n1, n2]) | (refine cw_eq (ck _) ?_ ?_; (· (simp [*]; done))))
          all_goals try first | exact inI64 (by omega) (by omega) | omega
          have hle2 : ∀ (D : List Nat) (h : Heap) (n n' : Nat) (o1 f1 o2 f2 : Bool), cellsLe D h n n' (((roA (endK places roads ends k)).set (k * 5 + 1) (.w o1 f1 (.int .i64 (idxOf places (nth ends k).1)))).set (k * 5 + 2) (.w o2 f2 (.int .i64 (idxOf places (nth ends k).2)))) (roA (endK places roads ends (k + 1))) := kle
          (refine loopK_normal _ _ _ _ _ (k + 1) _ ?_ (by first | omega | (dsimp only; omega) | (simp; omega)) ?_; (· exact ⟨by omega, hjn⟩); (refine le_gen [] ?_ ?_ <;> first | trivial | (simp [*, hle2]; done)))
        · have hb := (show ∀ j, j < ends.length → (∀ i, i < j → okE places (nth ends i)) → ¬ okE places (nth ends j) → endsD places roads ends at_ = .inl (nth at_ j) from kebad) k hlt hj2 hok
          have hres := show (match endsD places roads ends at_ with | .inl k => (noNet, k, 6) | .inr l => if (netS ⟨places, l⟩).2.2 = 0 then (⟨places, l⟩, 0, 0) else (noNet, 0, (netS ⟨places, l⟩).2.2)) = (N, e1, e2) from kres
          rw [hb] at hres
          obtain ⟨rfl, h2⟩ := Prod.mk.inj hres
          obtain ⟨rfl, rfl⟩ := Prod.mk.inj h2
          clear hres hb hj2 gn
          unfold okE at hok
          by_cases n1 : idxOf places (nth ends k).1 < 0
          · clear hok
            repeat' (first | (with_reducible first | refine awp_seq ?_ | refine awp_blockS ?_ | refine awp_skip ?_ | refine awp_ret ?_ | refine awp_region ?_ | refine awp_regionD (id := 14) 14 mixed (by decide +kernel) ?_ | refine awp_regionS (id := 16) [0, 1, 2] [3, 4, 5] [[], [.slot 2], [.slot 2]] [[.slot 2], [.slot 3], [.slot 4]] mixed (by decide +kernel) ?_ | refine awp_condM ?_ | refine And.intro ?_ ?_ | exact EqV_w | exact EqE_w | exact EqV_fn | exact EqE_fn | exact EqV_gd | exact EqE_gd | refine cw (ck _) ?_ | intro _) | (simp [*, hltI, hlt, hlt2, gd, gl, n1, noNet, srn, crn]) | (refine cw_eq (ck _) ?_ ?_; (· (simp [*]; done))))
            all_goals try first | exact inI64 (by omega) (by omega) | omega
          · have n2 : idxOf places (nth ends k).2 < 0 := by omega
            clear hok
            repeat' (first | (with_reducible first | refine awp_seq ?_ | refine awp_blockS ?_ | refine awp_skip ?_ | refine awp_ret ?_ | refine awp_region ?_ | refine awp_regionD (id := 14) 14 mixed (by decide +kernel) ?_ | refine awp_regionS (id := 16) [0, 1, 2] [3, 4, 5] [[], [.slot 2], [.slot 2]] [[.slot 2], [.slot 3], [.slot 4]] mixed (by decide +kernel) ?_ | refine awp_condM ?_ | refine And.intro ?_ ?_ | exact EqV_w | exact EqE_w | exact EqV_fn | exact EqE_fn | exact EqV_gd | exact EqE_gd | refine cw (ck _) ?_ | intro _) | (simp [*, hltI, hlt, hlt2, gd, gl, n1, n2, noNet, srn, crn]) | (refine cw_eq (ck _) ?_ ?_; (· (simp [*]; done))))
            all_goals try first | exact inI64 (by omega) (by omega) | omega
      · have hke : k = ends.length := by omega
        have hz2 : endK places roads ends k = List.zipWith (setE places) roads ends := by rw [hke]; exact endK_all _ _ _ hne
        have hz3 := endK_all places roads ends hne
        rw [hne] at hz3
        have hltI : ¬ (k : Int) < (roads.length : Int) := by omega
        have hj' := keep (show ∀ j, j < ends.length → okE places (nth ends j) from hke ▸ (show ∀ j, j < k → okE places (nth ends j) from hj2))
        clear hj2
        repeat' (first | (with_reducible first | refine awp_seq ?_ | refine awp_exit ?_ | refine awp_region ?_ | refine awp_condM ?_ | exact EqV_w | exact EqE_w | exact EqV_fn | exact EqE_fn | exact EqV_gd | exact EqE_gd | intro _) | (simp [*, hltI]))
        all_goals try first | exact inI64 (by omega) (by omega) | omega
        all_goals (refine finW_intro () ?_ ?_; (· first | exact hj' | (rw [← hne]; exact hj')); (refine le_gen [] ?_ ?_ <;> first | trivial | (simp [*, hz2, hz3]; done)))
    · have hb := (show (∀ j, j < ends.length → okE places (nth ends j)) → endsD places roads ends at_ = .inr (List.zipWith (setE places) roads ends) from keok) hf
      have hres := show (match endsD places roads ends at_ with | .inl k => (noNet, k, 6) | .inr l => if (netS ⟨places, l⟩).2.2 = 0 then (⟨places, l⟩, 0, 0) else (noNet, 0, (netS ⟨places, l⟩).2.2)) = (N, e1, e2) from kres
      rw [hb] at hres
      dsimp only at hres
      have cn := open_c _ hni
      unfold aNet cNet at cn
      have hzl : (List.zipWith (setE places) roads ends).length = roads.length := by simp [hne]
      dsimp only at cn
      rw [hzl, strsP] at cn
      have htl2 : T.length = roads.length := htl.trans hne
      clear htl
      generalize List.zipWith (setE places) roads ends = Z at *
      by_cases he : (netS ⟨places, Z⟩).2.2 = 0
      · rw [if_pos he] at hres
        obtain ⟨rfl, h2⟩ := Prod.mk.inj hres
        obtain ⟨rfl, rfl⟩ := Prod.mk.inj h2
        rw [he] at cn
        clear hres he hb keok kebad kck kres hf hni
        repeat' (first | (with_reducible first | refine stop_at (id := 19) ?_ | refine awp_seq ?_ | exact EqV_w | exact EqE_w | exact EqV_fn | exact EqE_fn | exact EqV_gd | exact EqE_gd | intro _) | (simp [*]))
        refine ⟨awp_le (st' := ⟨[(2, .ptr 0 2 0), (3, .ptr 1 1 0), (4, .ptr 2 1 0), (5, .ptr 3 3 0)], [(3, [.w false false (.sl places.length (strP places)), .w false false (.sl roads.length (cRoads Z)), .w false false (.sl roads.length (toP T))]), (0, [nilA, nilA]), (1, [iZ]), (2, [iZ])], 9, 97⟩) (by refine le_gen [6, 7, 8] ?_ ?_ <;> first | trivial | (simp [hzl, htl2]; done)) ?_⟩
        repeat' (first | (with_reducible first | refine awp_seq ?_ | refine awp_skip ?_ | refine awp_ret ?_ | refine awp_region ?_ | refine awp_condM ?_ | refine And.intro ?_ ?_ | exact EqV_w | exact EqE_w | exact EqV_fn | exact EqE_fn | exact EqV_gd | exact EqE_gd | refine cw (cn) ?_ | intro _) | (simp [*, strsP, hzl]) | (refine cw_eq (cn) ?_ ?_; (· (simp [*]; done))))
      · rw [if_neg he] at hres
        obtain ⟨rfl, h2⟩ := Prod.mk.inj hres
        obtain ⟨rfl, rfl⟩ := Prod.mk.inj h2
        generalize (netS ⟨places, Z⟩).2.2 = E at *
        clear hres hb keok kebad kck kres hf hni
        repeat' (first | (with_reducible first | refine stop_at (id := 19) ?_ | refine awp_seq ?_ | exact EqV_w | exact EqE_w | exact EqV_fn | exact EqE_fn | exact EqV_gd | exact EqE_gd | intro _) | (simp [*]))
        refine ⟨awp_le (st' := ⟨[(2, .ptr 0 2 0), (3, .ptr 1 1 0), (4, .ptr 2 1 0), (5, .ptr 3 3 0)], [(3, [.w false false (.sl places.length (strP places)), .w false false (.sl roads.length (cRoads Z)), .w false false (.sl roads.length (toP T))]), (0, [nilA, nilA]), (1, [iZ]), (2, [iZ])], 9, 97⟩) (by refine le_gen [6, 7, 8] ?_ ?_ <;> first | trivial | (simp [hzl, htl2]; done)) ?_⟩
        repeat' (first | (with_reducible first | refine awp_seq ?_ | refine awp_ret ?_ | refine awp_region ?_ | refine awp_condM ?_ | refine And.intro ?_ ?_ | exact EqV_w | exact EqE_w | exact EqV_fn | exact EqE_fn | exact EqV_gd | exact EqE_gd | refine cw (cn) ?_ | intro _) | (simp [*, he, strsP, hzl, noNet, srn, crn]) | (refine cw_eq (cn) ?_ ?_; (· (simp [*]; done))))
  · have hz0 : 0 < r.size := by omega
    have hzI : (0 : Int) < (r.size : Int) := by omega
    refine awy_seq (awy_of ?_)
    repeat' (first | (with_reducible first | refine awp_seq ?_ | refine awp_skip ?_ | refine awp_region ?_ | refine awp_condM ?_ | exact EqV_w | exact EqE_w | exact EqV_fn | exact EqE_fn | exact EqV_gd | exact EqE_gd | intro _) | (simp [*, hzI, hz0]))
    refine awy_block (awy_seq (awy_of ?_))
    repeat' (first | (with_reducible first | refine awp_region ?_ | exact EqV_w | exact EqE_w | exact EqV_fn | exact EqE_fn | exact EqV_gd | exact EqE_gd | intro _) | (simp [*]))
    refine awy_seq (awy_of ?_)
    have ci := indexByte_c r
    by_cases hix : 0 ≤ Lib.indexByte r.data.toList 10
    · obtain ⟨i, hi, ilt, ipc, icut, inl⟩ := line_of hix
      rw [hi] at ci
      have hi0 : (0 : Int) ≤ (i : Int) := by omega
      clear hix hi
      have hcw := ilt
      have hiI : (i : Int) + 1 ≤ (r.size : Int) := by omega
      have hn1 : ((i : Int) + 1).toNat = i + 1 := by omega
      repeat' (first | (with_reducible first | refine awp_seq ?_ | refine awp_region ?_ | refine awp_regionD (id := 4) 9 mixed (by decide +kernel) ?_ | refine awp_condM ?_ | refine And.intro ?_ ?_ | exact EqV_w | exact EqE_w | exact EqV_fn | exact EqE_fn | exact EqV_gd | exact EqE_gd | refine cw (ci) ?_ | intro _) | (simp [*, hi0, hiI, hn1]) | (refine cw_eq (ci) ?_ ?_; (· (simp [*]; done))))
      all_goals try first | exact inI64 (by omega) (by omega) | omega
      refine awy_seq (awy_regionY (id := 6) 2 (by decide) rfl rfl (by simp) ?_)
      simp
      refine yw2_intro false false rfl rfl (by simp) ?_
      have cc := cutSuffix_c (r.extract 0 (i + 1)) (by rw [ByteArray.size_extract]; omega)
      rw [icut, inl] at cc
      have hxj : nth L j = r.extract 0 i := by
        have e := drop_nthA L j hj
        rw [← (show pieces r nl1 = _ from hp), ipc] at e
        exact (List.cons.inj e).1.symm
      have hdr : pieces (r.extract (i + 1) r.size) nl1 = L.drop (j + 1) := by
        have e := drop_nthA L j hj
        rw [← (show pieces r nl1 = _ from hp), ipc] at e
        exact (List.cons.inj e).2
      have hj1 : j + 1 < L.length := by
        have : 1 ≤ (pieces (r.extract (i + 1) r.size) nl1).length := pieces_ne (r.extract (i + 1) r.size) 10
        have e : (pieces (r.extract (i + 1) r.size) nl1).length = (L.drop (j + 1)).length := by rw [hdr]
        rw [List.length_drop] at e
        omega
      have hwx := (show ∀ x ∈ L, (pieces x sp1).length < 1000 ∧ ∀ y ∈ pieces x sp1, y.size < 1000 from kwl) (nth L j) (nth_memA L j hj)
      have hli := PIn.line (show DrIn d j from kin) (by omega) hwx
      have cs := splitT_c (nth L j) sp1 (by rw [hxj, ByteArray.size_extract]; omega) (by decide)
      have hgood := fun d' (e : lineD d ((j : Int) + 1) (pieces (nth L j) sp1) = some d') => lines_good (L := L) hj1 e
      have hbad := fun (e : lineD d ((j : Int) + 1) (pieces (nth L j) sp1) = none) => lines_bad (L := L) hj1 e
      rw [← hxj] at cc
      have hwz : ∀ x ∈ pieces (nth L j) sp1, x.size < 1000 := hwx.2
      generalize hX : nth L j = X at *
      have kgood := keep hgood
      have kbad := keep hbad
      have kdr := keep hdr
      clear hgood hbad hdr hX hxj icut inl ipc ci
      repeat' (first | (with_reducible first | refine stop_at (id := 9) ?_ | refine awp_seq ?_ | refine awp_blockS ?_ | refine awp_region ?_ | refine And.intro ?_ ?_ | exact EqV_w | exact EqE_w | exact EqV_fn | exact EqE_fn | exact EqV_gd | exact EqE_gd | refine cw (cc) ?_ | intro _) | (simp [*]) | (refine cw_eq (cc) ?_ ?_; (· (simp [*]; done))) | (refine cw_eq (cs) ?_ ?_; (· (simp [*]; done))))
      all_goals try first | exact inI64 (by omega) (by omega) | omega
      refine ⟨awp_regionDJ (id := 9) 3 25 mixed (by decide +kernel) (by decide) Tryz.func25 (by kernel_rfl) rfl rfl ?_⟩
      repeat' (first | (with_reducible first | refine And.intro ?_ ?_ | exact EqV_w | exact EqE_w | exact EqV_fn | exact EqE_fn | exact EqV_gd | exact EqE_gd | refine cw (cs) ?_ | intro _) | (simp [*]) | (refine cw_eq (cc) ?_ ?_; (· (simp [*]; done))) | (refine cw_eq (cs) ?_ ?_; (· (simp [*]; done))))
      refine inlM_intro (Nat.le_of_ble_eq_true (by kernel_rfl)) (by simp) rfl ?_
      refine pRead_w d (toldS d) ((j : Int) + 1) ((j : Int) + 1) (r.extract (i + 1) r.size) true false (pieces X sp1) hli (by unfold toldS; have := (show DrIn d j from kin).na; have := (show DrIn d j from kin).nr; simp; omega) _ (fun d' f1 f2 f3 f4 => ?_) (fun x y z v f1 => ?_) (fun f1 => ?_)
      · have kin2 := keep ((show DrIn d j from kin).line hwz f1)
        have kl2 := keep ((show linesD d0 1 L = _ from hl).trans ((show ∀ d', lineD d ((j : Int) + 1) (pieces X sp1) = some d' → linesD d ((j : Int) + 1) (L.drop j) = linesD d' ((j : Int) + 1 + 1) (L.drop (j + 1)) from kgood) d' f1))
        have htl : toldS d = toldS d' := by unfold toldS; rw [f2, f3]
        rw [htl, ← f4]
        have krz := keep (show (r.extract (i + 1) r.size).size ≤ 60000 by rw [ByteArray.size_extract]; omega)
        clear f1 f2 f3 f4 htl hl hli kgood kbad cc cs
        repeat' (first | (with_reducible first | refine awp_skip ?_ | refine awp_condM ?_ | exact EqV_w | exact EqE_w | exact EqV_fn | exact EqE_fn | exact EqV_gd | exact EqE_gd | intro _) | (simp [*]))
        refine doneK2_go _ _ 97 le_env ?_
        repeat' (first | (with_reducible first | exact EqV_w | exact EqE_w | exact EqV_fn | exact EqE_fn | exact EqV_gd | exact EqE_gd | intro _) | (simp [*]))
        refine awy_of ?_
        repeat' (first | (with_reducible first | refine awp_skip ?_ | refine awp_condM ?_ | exact EqV_w | exact EqE_w | exact EqV_fn | exact EqE_fn | exact EqV_gd | exact EqE_gd | intro _) | (simp [*]))
        refine loopK_normal _ _ _ _ _ (j + 1, d', r.extract (i + 1) r.size) _ ⟨hj1, kin2, kl2, kdr, krz⟩ (by dsimp only; omega) ?_
        exact le_sub (by simp)
      · have kin2 := keep (show DrIn (nwD d ((j : Int) + 1) x y z v) (j + 1) from (show DrIn d j from kin).line hwz f1)
        have kl2 := keep (show linesD d0 1 L = linesD (nwD d ((j : Int) + 1) x y z v) ((j : Int) + 1 + 1) (L.drop (j + 1)) from (show linesD d0 1 L = _ from hl).trans ((show ∀ d', lineD d ((j : Int) + 1) (pieces X sp1) = some d' → linesD d ((j : Int) + 1) (L.drop j) = linesD d' ((j : Int) + 1 + 1) (L.drop (j + 1)) from kgood) _ f1))
        have hal : d.at_.length = d.ends.length := by have := (show DrIn d j from kin).na; have := (show DrIn d j from kin).ne; omega
        have krz := keep (show (r.extract (i + 1) r.size).size ≤ 60000 by rw [ByteArray.size_extract]; omega)
        have hnl : (nwD d ((j : Int) + 1) x y z v).roads.length + 9 = d.roads.length + 10 := by unfold nwD; simp
        have kal := keep hal
        clear f1 hl hli kgood kbad cc cs hal
        repeat' (first | (with_reducible first | refine awp_skip ?_ | refine awp_condM ?_ | exact EqV_w | exact EqE_w | exact EqV_fn | exact EqE_fn | exact EqV_gd | exact EqE_gd | intro _) | (simp [*]))
        refine doneK2_go _ _ 97 (nw_le d kal _ _ _ _ _ _ _ (by simp)) ?_
        repeat' (first | (with_reducible first | exact EqV_w | exact EqE_w | exact EqV_fn | exact EqE_fn | exact EqV_gd | exact EqE_gd | intro _) | (simp [*]))
        refine awy_of ?_
        repeat' (first | (with_reducible first | refine awp_skip ?_ | refine awp_condM ?_ | exact EqV_w | exact EqE_w | exact EqV_fn | exact EqE_fn | exact EqV_gd | exact EqE_gd | intro _) | (simp [*]))
        refine loopK_normal _ _ _ _ _ (j + 1, nwD d ((j : Int) + 1) x y z v, r.extract (i + 1) r.size) _ ⟨hj1, kin2, kl2, kdr, krz⟩ (by dsimp only; omega) ?_
        dsimp only
        rw [hnl]
        exact le_sub (by simp)
      · have hll := (show linesD d0 1 L = _ from hl).trans ((show lineD d ((j : Int) + 1) (pieces X sp1) = none → linesD d ((j : Int) + 1) (L.drop j) = .inl ((j : Int) + 1) from kbad) f1)
        have hres := (show resL' L = _ from kR).symm.trans (res_inl hll)
        obtain ⟨rfl, h2⟩ := Prod.mk.inj hres
        obtain ⟨rfl, rfl⟩ := Prod.mk.inj h2
        clear hres hll f1 hli hl kgood kbad cc cs
        repeat' (first | (with_reducible first | refine awp_seq ?_ | refine awp_ret ?_ | refine awp_regionS (id := 10) [0, 1] [2, 3, 4] [[], [.slot 2]] [[.slot 2], [.slot 3], [.slot 4]] mixed (by decide +kernel) ?_ | refine awp_condM ?_ | exact EqV_w | exact EqE_w | exact EqV_fn | exact EqE_fn | exact EqV_gd | exact EqE_gd | intro _) | (simp [*, bdH]))
        all_goals try first | exact inI64 (by omega) (by omega) | omega
        refine doneK2_ret _ _ _ le_env ?_
        repeat' (first | (with_reducible first | refine awp_ret ?_ | refine awp_condM ?_ | exact EqV_w | exact EqE_w | exact EqV_fn | exact EqE_fn | exact EqV_gd | exact EqE_gd | intro _) | (simp [*, bdH, noNet, srn, crn]))
        simp [RetA, resL, resA, oneOf]
    · obtain ⟨ipc, inl, icut⟩ := line_last (s := r) (by omega)
      generalize Lib.indexByte r.data.toList 10 = q at *
      repeat' (first | (with_reducible first | refine awp_seq ?_ | refine awp_region ?_ | refine awp_condM ?_ | refine And.intro ?_ ?_ | exact EqV_w | exact EqE_w | exact EqV_fn | exact EqE_fn | exact EqV_gd | exact EqE_gd | refine cw (ci) ?_ | intro _) | (simp [*, hix]) | (refine cw_eq (ci) ?_ ?_; (· (simp [*]; done))))
      all_goals try first | exact inI64 (by omega) (by omega) | omega
      refine awy_seq (awy_regionY (id := 6) 2 (by decide) rfl rfl (by simp) ?_)
      simp
      refine yw2_intro false false rfl rfl (by simp) ?_
      have cc := cutSuffix_c r (by omega)
      rw [icut, inl] at cc
      have hld : L.drop j = [r] := (show pieces r nl1 = _ from hp).symm.trans ipc
      have hxj : nth L j = r := by
        have e := drop_nthA L j hj
        rw [hld] at e
        exact (List.cons.inj e).1.symm
      have hj1 : j + 1 = L.length := by
        have e := congrArg List.length hld
        rw [List.length_drop] at e
        simp at e
        omega
      have hwx := (show ∀ x ∈ L, (pieces x sp1).length < 1000 ∧ ∀ y ∈ pieces x sp1, y.size < 1000 from kwl) (nth L j) (nth_memA L j hj)
      rw [hxj] at hwx
      have hli := PIn.line (show DrIn d j from kin) (by omega) hwx
      have cs := splitT_c r sp1 (by omega) (by decide)
      have hll := lines_last (d := d) (k := (j : Int) + 1) hj1
      rw [hxj, if_neg (fun e => hz (by rw [e]; rfl)), ← (show linesD d0 1 L = _ from hl)] at hll
      have hres := (show resL' L = _ from kR).symm.trans (res_inl hll)
      obtain ⟨rfl, h2⟩ := Prod.mk.inj hres
      obtain ⟨rfl, rfl⟩ := Prod.mk.inj h2
      clear hres hll hl hp hld hxj hwx ipc icut inl ci
      repeat' (first | (with_reducible first | refine stop_at (id := 9) ?_ | refine awp_seq ?_ | refine awp_blockS ?_ | refine awp_region ?_ | refine And.intro ?_ ?_ | exact EqV_w | exact EqE_w | exact EqV_fn | exact EqE_fn | exact EqV_gd | exact EqE_gd | refine cw (cc) ?_ | intro _) | (simp [*]) | (refine cw_eq (cc) ?_ ?_; (· (simp [*]; done))) | (refine cw_eq (cs) ?_ ?_; (· (simp [*]; done))))
      all_goals try first | exact inI64 (by omega) (by omega) | omega
      refine ⟨awp_regionDJ (id := 9) 3 25 mixed (by decide +kernel) (by decide) Tryz.func25 (by kernel_rfl) rfl rfl ?_⟩
      repeat' (first | (with_reducible first | refine And.intro ?_ ?_ | exact EqV_w | exact EqE_w | exact EqV_fn | exact EqE_fn | exact EqV_gd | exact EqE_gd | refine cw (cs) ?_ | intro _) | (simp [*]) | (refine cw_eq (cc) ?_ ?_; (· (simp [*]; done))) | (refine cw_eq (cs) ?_ ?_; (· (simp [*]; done))))
      refine inlM_intro (Nat.le_of_ble_eq_true (by kernel_rfl)) (by simp) rfl ?_
      refine pRead_w d (toldS d) ((j : Int) + 1) ((j : Int) + 1) ⟨#[]⟩ true false (pieces r sp1) hli (by unfold toldS; have := (show DrIn d j from kin).na; have := (show DrIn d j from kin).nr; simp; omega) _ (fun d' f1 f2 f3 f4 => ?_) (fun x y z v f1 => ?_) (fun f1 => ?_)
      · clear f1 f2 f3 f4 hli cc cs
        repeat' (first | (with_reducible first | refine stop_at (id := 10) ?_ | refine awp_seq ?_ | refine awp_condM ?_ | exact EqV_w | exact EqE_w | exact EqV_fn | exact EqE_fn | exact EqV_gd | exact EqE_gd | intro _) | (simp [*]))
        all_goals try first | exact inI64 (by omega) (by omega) | omega
        refine ⟨awp_le (st' := ⟨[(2, .ptr 0 2 0), (3, .ptr 1 1 0), (4, .ptr 2 1 0), (6, .ptr 4 1 0)], bdH ((j : Int) + 1) ⟨#[]⟩, d.roads.length + 9, 97⟩) (by refine le_gen [] ?_ ?_ <;> first | trivial | (simp [bdH]; done)) ?_⟩
        repeat' (first | (with_reducible first | refine awp_ret ?_ | refine awp_regionS (id := 10) [0, 1] [2, 3, 4] [[], [.slot 2]] [[.slot 2], [.slot 3], [.slot 4]] mixed (by decide +kernel) ?_ | exact EqV_w | exact EqE_w | exact EqV_fn | exact EqE_fn | exact EqV_gd | exact EqE_gd | intro _) | (simp [*, bdH, noNet, srn, crn]))
        refine doneK2_ret _ _ _ le_env ?_
        repeat' (first | (with_reducible first | refine awp_ret ?_ | refine awp_condM ?_ | exact EqV_w | exact EqE_w | exact EqV_fn | exact EqE_fn | exact EqV_gd | exact EqE_gd | intro _) | (simp [*, bdH, noNet, srn, crn]))
        simp [RetA, resL, resA, oneOf]
      · clear f1 hli cc cs
        repeat' (first | (with_reducible first | refine stop_at (id := 10) ?_ | refine awp_seq ?_ | refine awp_condM ?_ | exact EqV_w | exact EqE_w | exact EqV_fn | exact EqE_fn | exact EqV_gd | exact EqE_gd | intro _) | (simp [*]))
        all_goals try first | exact inI64 (by omega) (by omega) | omega
        refine ⟨awp_le (st' := ⟨[(2, .ptr 0 2 0), (3, .ptr 1 1 0), (4, .ptr 2 1 0), (6, .ptr 4 1 0)], bdH ((j : Int) + 1) ⟨#[]⟩, d.roads.length + 9, 97⟩) (by refine le_gen [] ?_ ?_ <;> first | trivial | (simp [bdH]; done)) ?_⟩
        repeat' (first | (with_reducible first | refine awp_ret ?_ | refine awp_regionS (id := 10) [0, 1] [2, 3, 4] [[], [.slot 2]] [[.slot 2], [.slot 3], [.slot 4]] mixed (by decide +kernel) ?_ | exact EqV_w | exact EqE_w | exact EqV_fn | exact EqE_fn | exact EqV_gd | exact EqE_gd | intro _) | (simp [*, bdH, noNet, srn, crn]))
        refine doneK2_ret _ _ _ le_env ?_
        repeat' (first | (with_reducible first | refine awp_ret ?_ | refine awp_condM ?_ | exact EqV_w | exact EqE_w | exact EqV_fn | exact EqE_fn | exact EqV_gd | exact EqE_gd | intro _) | (simp [*, bdH, noNet, srn, crn]))
        simp [RetA, resL, resA, oneOf]
      · clear f1 hli cc cs
        repeat' (first | (with_reducible first | refine awp_seq ?_ | refine awp_ret ?_ | refine awp_regionS (id := 10) [0, 1] [2, 3, 4] [[], [.slot 2]] [[.slot 2], [.slot 3], [.slot 4]] mixed (by decide +kernel) ?_ | refine awp_condM ?_ | exact EqV_w | exact EqE_w | exact EqV_fn | exact EqE_fn | exact EqV_gd | exact EqE_gd | intro _) | (simp [*, bdH]))
        all_goals try first | exact inI64 (by omega) (by omega) | omega
        refine doneK2_ret _ _ _ le_env ?_
        repeat' (first | (with_reducible first | refine awp_ret ?_ | refine awp_condM ?_ | exact EqV_w | exact EqE_w | exact EqV_fn | exact EqE_fn | exact EqV_gd | exact EqE_gd | intro _) | (simp [*, bdH, noNet, srn, crn]))
        simp [RetA, resL, resA, oneOf]
end Go.Proofs.YtfpamehamllndaaGreatDoor

