/- Contracts of functions for this claim: lemmas alone. -/
import Derived.Test.YtfpamehamllndaaGreatDoorP115
import Derived.Test.YtfpamehamllndaaGreatDoorLq
set_option linter.unusedSimpArgs false
set_option linter.unusedVariables false
namespace Go.Proofs.YtfpamehamllndaaGreatDoor
open Go Go.Fi Go.RowKit Go.Shelf
set_option maxRecDepth 20000

/-! ### the reference reads a net -/
@[simp] theorem netHA_0 (d : Dr) (A : List Int) : hget (netHA d A) 0 = some [nilA, nilA] := rfl
@[simp] theorem netHA_1 (d : Dr) (A : List Int) : hget (netHA d A) 1 = some [.msl 3 d.places.length 1 0 d.places.length, .msl 4 (d.roads.length * 5) 5 0 d.roads.length] := rfl
@[simp] theorem newH_0 (d : Dr) (A : List Int) (x y z : ByteArray) (v : Int) : hget (newH d A x y z v) 0 = some [nilA, nilA] := rfl
@[simp] theorem newH_1 (d : Dr) (A : List Int) (x y z : ByteArray) (v : Int) : hget (newH d A x y z v) 1 = some [.msl 3 d.places.length 1 0 d.places.length, .msl 4 (d.roads.length * 5 + 5) 5 0 (d.roads.length + 1)] := rfl
@[simp] theorem badH_0 : hget badH 0 = some [nilA, nilA] := rfl
def d0 : Dr := ⟨[], [], [], []⟩
def resL' (L : List ByteArray) : Net × Int × Int := match linesD d0 1 L with
    | .inl k => (noNet, k, 7)
    | .inr d => match endsD d.places d.roads d.ends d.at_ with
      | .inl k => (noNet, k, 6)
      | .inr l => if (netS ⟨d.places, l⟩).2.2 = 0 then (⟨d.places, l⟩, 0, 0) else (noNet, 0, (netS ⟨d.places, l⟩).2.2)
theorem res_inl {L : List ByteArray} {k : Int} (h : linesD d0 1 L = .inl k) : resL' L = (noNet, k, 7) := by unfold resL'; rw [h]
theorem lineIn_of {d : Dr} {i : Nat} (h : DrIn d i) (hi : i ≤ 400) {s : ByteArray} (hs : s.size ≤ 300) : RLineIn d (pieces s sp1) := by
  have h1 : (pieces s sp1).length ≤ s.size + 1 := pieces_len s 32
  refine ⟨by omega, pieces_ne s 32, fun j hj => ?_, ?_, ?_, ?_, fun r hr => ?_⟩
  · have : (nth (pieces s sp1) j).size ≤ s.size := pieces_size s 32 (nth_memA _ j hj); omega
  · have := h.np; omega
  · have := h.nr; omega
  · have := h.nr; have := h.ne; omega
  · have := h.pt r hr; omega

theorem srn : strs [] = [] := rfl
theorem crn : cRoads [] = [] := rfl
theorem strsP (l : List ByteArray) : strs l = strP l := rfl
theorem cellsLe_set {D : List Nat} {h : Heap} {n n' : Nat} {x y : AV} (hxy : cellLe D h n n' x y) : ∀ {a b : List AV} (i : Nat), cellsLe D h n n' a b → cellsLe D h n n' (a.set i x) (b.set i y)
  | [], [], _, _ => trivial
  | [], _ :: _, _, h => h.elim
  | _ :: _, [], _, h => h.elim
  | _ :: a, _ :: b, 0, h => ⟨hxy, h.2⟩
  | _ :: a, _ :: b, i + 1, h => ⟨h.1, cellsLe_set hxy i h.2⟩
theorem roA_le2 (l : List Road) (k : Nat) (a b : Int) (hk : k < l.length) (D : List Nat) (h : Heap) (n n' : Nat) (o1 f1 o2 f2 : Bool) : cellsLe D h n n' (((roA l).set (k * 5 + 1) (.w o1 f1 (.int .i64 a))).set (k * 5 + 2) (.w o2 f2 (.int .i64 b))) (roA (l.set k { nth l k with frm := a, to := b })) := by
  rw [← roA_set2 l k a b hk]
  exact cellsLe_set (by simp) _ (cellsLe_set (by simp) _ (by simp))
theorem enA_0 (l : List (ByteArray × ByteArray)) (k : Nat) (h : k < l.length) : nthA (enA l) (k * 2) = .w false false (.str (nth l k).1) := by
  unfold enA
  rw [nthA_map _ _ _ (by simp; omega)]
  exact congrArg _ (flatMap_get (fun e : ByteArray × ByteArray => [PV.str e.1, PV.str e.2]) 2 (fun _ => rfl) l k 0 h (by omega))
theorem enA_1 (l : List (ByteArray × ByteArray)) (k : Nat) (h : k < l.length) : nthA (enA l) (k * 2 + 1) = .w false false (.str (nth l k).2) := by
  unfold enA
  rw [nthA_map _ _ _ (by simp; omega)]
  exact congrArg _ (flatMap_get (fun e : ByteArray × ByteArray => [PV.str e.1, PV.str e.2]) 2 (fun _ => rfl) l k 1 h (by omega))
theorem zip_nth (pl : List ByteArray) (R : List Road) (E : List (ByteArray × ByteArray)) (h : E.length = R.length) (k : Nat) (hk : k < R.length) : nth (List.zipWith (setE pl) R E) k = setE pl (nth R k) (nth E k) := by
  have hk2 : k < E.length := by omega
  simp [nth, List.getD_eq_getElem?_getD, List.getElem?_zipWith, List.getElem?_eq_getElem hk, List.getElem?_eq_getElem hk2]
theorem netIn_zip {d : Dr} {i : Nat} (h : DrIn d i) (hi : i < 1000) : NetIn ⟨d.places, List.zipWith (setE d.places) d.roads d.ends⟩ := by
  have hl : (List.zipWith (setE d.places) d.roads d.ends).length = d.roads.length := by simp [h.ne]
  have np := h.np
  have nr := h.nr
  refine ⟨by show d.places.length < 1000; omega, by show (List.zipWith (setE d.places) d.roads d.ends).length < 1000; omega, fun k hk => ?_, fun k hk => ?_, fun k hk => ?_⟩
  · have := h.ps _ (nth_memA d.places k hk)
    show (nth d.places k).size < 1000000; omega
  · have hk' : k < d.roads.length := by rw [← hl]; exact hk
    show (nth (List.zipWith (setE d.places) d.roads d.ends) k).name.size < 1000000
    rw [zip_nth _ _ _ h.ne k hk']
    have := h.rs _ (nth_memA d.roads k hk')
    show (nth d.roads k).name.size < 1000000; omega
  · have hk' : k < d.roads.length := by rw [← hl]; exact hk
    show (nth (List.zipWith (setE d.places) d.roads d.ends) k).pts.length < 1000
    rw [zip_nth _ _ _ h.ne k hk']
    have := h.pt _ (nth_memA d.roads k hk')
    show (nth d.roads k).pts.length < 1000; omega
theorem place_d {d : Dr} {i : Nat} (h : DrIn d i) (hi : i < 1000) (j : Nat) (s : ByteArray) : RealCall Tryz.prog 30 [.agg [.sl d.places.length (strP d.places), .sl d.roads.length (cRoads (endK d.places d.roads d.ends j))], .str s] (.int .i64 (idxOf d.places s)) true := by
  have hp : d.places.length < 1000 := by have := h.np; omega
  have c := rPlace_c ⟨d.places, endK d.places d.roads d.ends j⟩ hp s
  unfold aNet cNet at c
  dsimp only at c
  rw [endK_len _ _ _ _ h.ne] at c
  exact c

set_option maxHeartbeats 16000000 in
theorem rParse_c (t : ByteArray) (ht : t.size ≤ 300) : RealCall Tryz.prog 9 [.str t] (.tup [aNet (parseN t).1, .int .i64 (parseN t).2.1, .int .i64 (parseN t).2.2]) false := by
  have hpn : parseN t = resL' (pieces t nl1) := by unfold parseN resL' d0; rw [if_neg (by omega)]; cases linesD ⟨[], [], [], []⟩ 1 (pieces t nl1) with
    | inl k => rfl
    | inr d => dsimp only; cases endsD d.places d.roads d.ends d.at_ <;> rfl
  rw [hpn]
  clear hpn
  have c1 : RealCall Tryz.prog 28 [.str t, .int .u8 10] (.sl (pieces t nl1).length (strP (pieces t nl1))) true := rCut_c t 10 (by omega)
  have hLl : (pieces t nl1).length ≤ 301 := by have : (pieces t nl1).length ≤ t.size + 1 := pieces_len t 10; omega
  have hLn : 1 ≤ (pieces t nl1).length := pieces_ne t 10
  have hLs : ∀ i, i < (pieces t nl1).length → (nth (pieces t nl1) i).size ≤ 300 := fun i hi => by have : (nth (pieces t nl1) i).size ≤ t.size := pieces_size t 10 (nth_memA _ i hi); omega
  generalize pieces t nl1 = L at *
  have htI : ¬ (60000 : Int) < (t.size : Int) := by omega
  have kLs := keep hLs
  generalize hR : resL' L = R
  have kR : Keep (resL' L = R) := keep hR
  have kz : Keep (linesD d0 1 L = linesD d0 (((0 : Nat) : Int) + 1) (L.drop 0)) := keep rfl
  clear hR hLs
  obtain ⟨N, e1, e2⟩ := R
  dsimp only
  unfold aNet cNet
  refine realcall_intro Tryz.func9 (by kernel_rfl) rfl (Nat.le_of_ble_eq_true (by kernel_rfl)) ?_
  simp only [Tryz.results9, Tryz.ntmps9]
  repeat' (first | (with_reducible first | refine awp_seq ?_ | refine awp_skip ?_ | refine awp_region ?_ | refine awp_condM ?_ | refine And.intro ?_ ?_ | exact EqV_w | exact EqE_w | exact EqV_fn | exact EqE_fn | exact EqV_gd | exact EqE_gd | refine cw (c1) ?_ | intro _) | (simp [*, htI]) | (refine cw_eq (c1) ?_ ?_; (· (simp [*]; done))))
  refine awp_for5 (fun (x : Nat × Dr) => nxR x.2.roads) (fun (d : Dr) => 7) (fun (x : Nat × Dr) => x.1 ≤ L.length ∧ DrIn x.2 x.1 ∧ Keep (linesD d0 1 L = linesD x.2 ((x.1 : Int) + 1) (L.drop x.1))) [2, 5, 6, 7] (fun (x : Nat × Dr) => [(9, .w false false (.int .i64 x.1)), (8, .msl 6 x.2.at_.length 1 0 x.2.at_.length)]) [] (fun (x : Nat × Dr) => netHA x.2 x.2.at_) (fun (x : Nat × Dr) => L.length - x.1) (fun (d : Dr) => DrIn d L.length ∧ Keep (linesD d0 1 L = .inr d)) [2, 5, 6] (fun (d : Dr) => [(8, .msl 6 d.at_.length 1 0 d.at_.length)]) [] (fun (d : Dr) => [(1, [.msl 3 d.places.length 1 0 d.places.length, .msl 4 (d.roads.length * 5) 5 0 d.roads.length]), (2, [.msl 5 (d.ends.length * 2) 2 0 d.ends.length]), (3, stA d.places), (4, roA d.roads), (5, enA d.ends), (6, iA d.at_), (0, [nilA, nilA])]) ((0, d0)) ⟨Nat.zero_le _, DrIn.zero, kz⟩ (le_gen [] (by simp [d0, netHA, ptH_nil, rdC_nil, nxR_nil, enA, enP]) (by simp [d0, netHA, ptH_nil, rdC_nil, nxR_nil, enA, enP])) (fun x hk => ?_) (fun d hf => ?_)
  · clear kz
    obtain ⟨i, d⟩ := x
    obtain ⟨hi, hin, hl⟩ := hk
    dsimp only at hi hin hl
    have kin := keep hin
    clear hin
    by_cases hlt : i < L.length
    · have hltI : (i : Int) < (L.length : Int) := by omega
      have hsz := (show ∀ i, i < L.length → (nth L i).size ≤ 300 from kLs) i hlt
      by_cases hla : i + 1 = L.length
      · have hlaE : ((i : Int) = (L.length : Int) - 1) = True := eq_true (by omega)
        have hll := lines_last (d := d) (k := (i : Int) + 1) hla
        rw [← (show linesD d0 1 L = _ from hl)] at hll
        by_cases hem : nth L i = ⟨#[]⟩
        · rw [if_pos hem] at hll
          have kll := keep hll
          have hiL := hla
          clear hll hl hla
          repeat' (first | (with_reducible first | refine awp_seq ?_ | refine awp_blockS ?_ | refine awp_skip ?_ | refine awp_exit ?_ | refine awp_region ?_ | refine awp_condM ?_ | refine And.intro ?_ ?_ | exact EqV_w | exact EqE_w | exact EqV_fn | exact EqE_fn | exact EqV_gd | exact EqE_gd | intro _) | (simp [*, hltI, hlaE, hem, hlt]))
          all_goals try first | exact inI64 (by omega) (by omega) | omega
          obtain ⟨places, roads, ends, at_⟩ := d
          rcases List.eq_nil_or_concat roads with hr | ⟨l, r, hr⟩
          · subst hr
            simp only [netHA, ptH_nil, nxR_nil, rdC_nil, List.append_nil]
            (refine finW_intro ⟨places, [], ends, at_⟩ ?_ ?_; (· exact ⟨hiL ▸ (show DrIn _ i from kin).up, kll⟩); (refine le_gen [] ?_ ?_ <;> first | trivial | (simp [*, roA, cRoads]; done)))
          · rw [List.concat_eq_append] at hr
            subst hr
            simp only [netHA, ptH_snoc, nxR_snoc, rdC_snoc]
            (refine finW_intro ⟨places, l ++ [r], ends, at_⟩ ?_ ?_; (· exact ⟨hiL ▸ (show DrIn _ i from kin).up, kll⟩); (refine le_gen [7] ?_ ?_ <;> first | trivial | (simp [*, roA, cRoads, cRoad, laR]; done)))
        · rw [if_neg hem] at hll
          have hres := (show resL' L = _ from kR).symm.trans (res_inl hll)
          obtain ⟨rfl, h2⟩ := Prod.mk.inj hres
          obtain ⟨rfl, rfl⟩ := Prod.mk.inj h2
          clear hres hll hl
          have hlin := lineIn_of (show DrIn d i from kin) (by omega) hsz
          repeat' (first | (with_reducible first | refine awp_regionJ (id := 13) 4 Tryz.func29 (by kernel_rfl) rfl (by decide) rfl ?_ | refine awp_seq ?_ | refine awp_blockS ?_ | refine awp_skip ?_ | refine awp_region ?_ | refine awp_condM ?_ | refine And.intro ?_ ?_ | exact EqV_w | exact EqE_w | exact EqV_fn | exact EqE_fn | exact EqV_gd | exact EqE_gd | intro _) | (simp [*, hltI, hlaE, hem, hlt]))
          all_goals try first | exact inI64 (by omega) (by omega) | omega
          refine inlM_intro (Nat.le_of_ble_eq_true (by kernel_rfl)) (by simp) rfl ?_
          refine rLine_w d ((i : Int) + 1) d.at_ true false (nth L i) (by omega) hlin _ (fun d' f1 f2 f3 f4 f5 => ?_) (fun x y z v f1 => ?_) (fun f1 => ?_) (fun f1 => ?_)
          · clear f1 f2 f3 f4 f5 hlin
            repeat' (first | (with_reducible first | refine stop_at (id := 14) ?_ | refine awp_seq ?_ | refine awp_condM ?_ | exact EqV_w | exact EqE_w | exact EqV_fn | exact EqE_fn | exact EqV_gd | exact EqE_gd | intro _) | (simp [*, hltI, hlaE, hem, hlt]))
            all_goals try first | exact inI64 (by omega) (by omega) | omega
            refine ⟨awp_le (st' := ⟨[(2, .ptr 0 2 0), (9, .w false false (.int .i64 i))], badH, 7, 116⟩) (by refine le_gen [] ?_ ?_ <;> first | trivial | (simp [badH]; done)) ?_⟩
            repeat' (first | (with_reducible first | refine awp_ret ?_ | refine awp_region ?_ | refine And.intro ?_ ?_ | exact EqV_w | exact EqE_w | exact EqV_fn | exact EqE_fn | exact EqV_gd | exact EqE_gd | intro _) | (simp [*, badH, noNet, strs, cRoads]))
            all_goals try first | exact inI64 (by omega) (by omega) | omega
          · clear f1 hlin
            repeat' (first | (with_reducible first | refine stop_at (id := 14) ?_ | refine awp_seq ?_ | refine awp_condM ?_ | exact EqV_w | exact EqE_w | exact EqV_fn | exact EqE_fn | exact EqV_gd | exact EqE_gd | intro _) | (simp [*, hltI, hlaE, hem, hlt]))
            all_goals try first | exact inI64 (by omega) (by omega) | omega
            refine ⟨awp_le (st' := ⟨[(2, .ptr 0 2 0), (9, .w false false (.int .i64 i))], badH, 7, 116⟩) (by refine le_gen [] ?_ ?_ <;> first | trivial | (simp [badH]; done)) ?_⟩
            repeat' (first | (with_reducible first | refine awp_ret ?_ | refine awp_region ?_ | refine And.intro ?_ ?_ | exact EqV_w | exact EqE_w | exact EqV_fn | exact EqE_fn | exact EqV_gd | exact EqE_gd | intro _) | (simp [*, badH, noNet, strs, cRoads]))
            all_goals try first | exact inI64 (by omega) (by omega) | omega
          · clear f1 hlin
            repeat' (first | (with_reducible first | refine stop_at (id := 14) ?_ | refine awp_seq ?_ | refine awp_condM ?_ | exact EqV_w | exact EqE_w | exact EqV_fn | exact EqE_fn | exact EqV_gd | exact EqE_gd | intro _) | (simp [*, hltI, hlaE, hem, hlt]))
            all_goals try first | exact inI64 (by omega) (by omega) | omega
            refine ⟨awp_le (st' := ⟨[(2, .ptr 0 2 0), (9, .w false false (.int .i64 i))], badH, 7, 116⟩) (by refine le_gen [] ?_ ?_ <;> first | trivial | (simp [badH]; done)) ?_⟩
            repeat' (first | (with_reducible first | refine awp_ret ?_ | refine awp_region ?_ | refine And.intro ?_ ?_ | exact EqV_w | exact EqE_w | exact EqV_fn | exact EqE_fn | exact EqV_gd | exact EqE_gd | intro _) | (simp [*, badH, noNet, strs, cRoads]))
            all_goals try first | exact inI64 (by omega) (by omega) | omega
          · clear f1 hlin
            repeat' (first | (with_reducible first | refine stop_at (id := 14) ?_ | refine awp_seq ?_ | refine awp_condM ?_ | exact EqV_w | exact EqE_w | exact EqV_fn | exact EqE_fn | exact EqV_gd | exact EqE_gd | intro _) | (simp [*, hltI, hlaE, hem, hlt]))
            all_goals try first | exact inI64 (by omega) (by omega) | omega
            refine ⟨awp_le (st' := ⟨[(2, .ptr 0 2 0), (9, .w false false (.int .i64 i))], badH, 7, 116⟩) (by refine le_gen [] ?_ ?_ <;> first | trivial | (simp [badH]; done)) ?_⟩
            repeat' (first | (with_reducible first | refine awp_ret ?_ | refine awp_region ?_ | refine And.intro ?_ ?_ | exact EqV_w | exact EqE_w | exact EqV_fn | exact EqE_fn | exact EqV_gd | exact EqE_gd | intro _) | (simp [*, badH, noNet, strs, cRoads]))
            all_goals try first | exact inI64 (by omega) (by omega) | omega
      · have hla2 : i + 1 < L.length := by omega
        have hlaE : ((i : Int) = (L.length : Int) - 1) = False := eq_false (by omega)
        have hlin := lineIn_of (show DrIn d i from kin) (by omega) hsz
        have kl := keep hl
        clear hl
        repeat' (first | (with_reducible first | refine awp_regionJ (id := 13) 4 Tryz.func29 (by kernel_rfl) rfl (by decide) rfl ?_ | refine awp_seq ?_ | refine awp_blockS ?_ | refine awp_skip ?_ | refine awp_region ?_ | refine awp_condM ?_ | refine And.intro ?_ ?_ | exact EqV_w | exact EqE_w | exact EqV_fn | exact EqE_fn | exact EqV_gd | exact EqE_gd | intro _) | (simp [*, hltI, hlaE, hlt]))
        all_goals try first | exact inI64 (by omega) (by omega) | omega
        refine inlM_intro (Nat.le_of_ble_eq_true (by kernel_rfl)) (by simp) rfl ?_
        refine rLine_w d ((i : Int) + 1) d.at_ true false (nth L i) (by omega) hlin _ (fun d' f1 f2 f3 f4 f5 => ?_) (fun x y z v f1 => ?_) (fun f1 => ?_) (fun f1 => ?_)
        · have hw : ∀ x ∈ pieces (nth L i) sp1, x.size < 1000 := fun x hx => by have := pieces_size (nth L i) 32 hx; omega
          have kin2 := keep ((show DrIn d i from kin).line hw f1)
          have kl2 := keep ((show linesD d0 1 L = _ from kl).trans (lines_good hla2 f1))
          have hgt : ¬ (d.roads.length : Int) < (d'.roads.length : Int) := by omega
          clear f1 hw hlin kin kl f3
          repeat' (first | (with_reducible first | refine awp_seq ?_ | refine awp_skip ?_ | refine awp_region ?_ | refine awp_condM ?_ | refine And.intro ?_ ?_ | exact EqV_w | exact EqE_w | exact EqV_fn | exact EqE_fn | exact EqV_gd | exact EqE_gd | intro _) | (simp [*, hltI, hlaE, hlt, hgt]))
          all_goals try first | exact inI64 (by omega) (by omega) | omega
          rw [← f5, ← f2]
          clear f2 f4 f5 hgt hlaE hsz
          obtain ⟨places, roads, ends, at_⟩ := d'
          dsimp only
          rcases List.eq_nil_or_concat roads with hr | ⟨l, r, hr⟩
          · subst hr
            simp only [netHA, ptH_nil, nxR_nil, rdC_nil, List.append_nil]
            (refine loopK_normal _ _ _ _ _ (i + 1, ⟨places, [], ends, at_⟩) _ ?_ (by first | omega | (dsimp only; omega) | (simp; omega)) ?_; (· exact ⟨by omega, kin2, kl2⟩); (refine le_gen [] ?_ ?_ <;> first | trivial | (simp [*, netHA, ptH_nil, nxR_nil, rdC_nil]; done)))
          · rw [List.concat_eq_append] at hr
            subst hr
            simp only [netHA, ptH_snoc, nxR_snoc, rdC_snoc]
            (refine loopK_normal _ _ _ _ _ (i + 1, ⟨places, l ++ [r], ends, at_⟩) _ ?_ (by first | omega | (dsimp only; omega) | (simp; omega)) ?_; (· exact ⟨by omega, kin2, kl2⟩); (refine le_gen [] ?_ ?_ <;> first | trivial | (simp [*, netHA, ptH_snoc, nxR_snoc, rdC_snoc]; done)))
        · have hw : ∀ x ∈ pieces (nth L i) sp1, x.size < 1000 := fun x hx => by have := pieces_size (nth L i) 32 hx; omega
          have kin2 := keep ((show DrIn d i from kin).line hw f1)
          have kl2 := keep ((show linesD d0 1 L = _ from kl).trans (lines_good hla2 f1))
          have hin0 := (show DrIn d i from kin)
          have hna := hin0.na
          have hnr := hin0.nr
          clear f1 hw hlin kin kl hin0
          obtain ⟨places, roads, ends, at_⟩ := d
          dsimp only at *
          have hatl : at_.length ≤ 400 := by omega
          clear hna hnr
          have hgt : (roads.length : Int) < (roads.length : Int) + 1 := by omega
          rcases List.eq_nil_or_concat roads with hr | ⟨l, r, hr⟩
          · have r1 : rdC roads = [] := by rw [hr]; rfl
            have r2 : ptH roads = [] := by rw [hr]; rfl
            have r3 : nxR roads = 7 := by rw [hr]; rfl
            have r4 : roA roads = [] := by rw [hr]; rfl
            clear hr
            simp only [newH, r1, r2, r3, List.append_nil, List.nil_append]
            clear r1 r2 r3
            repeat' (first | (with_reducible first | refine stop_at (id := 9) ?_ | refine awp_seq ?_ | refine awp_skip ?_ | refine awp_region ?_ | refine awp_condM ?_ | refine And.intro ?_ ?_ | exact EqV_w | exact EqE_w | exact EqV_fn | exact EqE_fn | exact EqV_gd | exact EqE_gd | intro _) | (simp [*, hltI, hlaE, hlt, hgt]))
            all_goals try first | exact inI64 (by omega) (by omega) | omega
            refine ⟨awp_le (st' := ⟨[(9, .w false false (.int .i64 i)), (8, .msl 6 (at_.length + 1) 1 0 (at_.length + 1)), (2, .ptr 0 2 0), (5, .ptr 1 2 0), (6, .ptr 2 1 0), (7, .w true false (.sl L.length (strP L)))], [(1, [.msl 3 places.length 1 0 places.length, .msl 4 ((roads).length * 5 + 5) 5 0 ((roads).length + 1)]), (2, [.msl 5 (ends.length * 2 + 2) 2 0 (ends.length + 1)]), (3, stA places), (4, roA (roads) ++ neR x v), (5, enA ends ++ [.w false false (.str y), .w false false (.str z)]), (6, iA (at_ ++ [(i : Int) + 1])), (0, [nilA, nilA])], 7, 116⟩) (by refine le_gen [] ?_ ?_ <;> first | trivial | (simp [neR, r4]; done)) ?_⟩
            clear r4
            repeat' (first | (with_reducible first | refine awp_region ?_ | refine And.intro ?_ ?_ | exact EqV_w | exact EqE_w | exact EqV_fn | exact EqE_fn | exact EqV_gd | exact EqE_gd | intro _) | (simp [*, hltI, hlt]))
            all_goals try first | exact inI64 (by omega) (by omega) | omega
            (refine loopK_normal _ _ _ _ _ (i + 1, ⟨places, roads ++ [⟨x, 0, 0, v, []⟩], ends ++ [(y, z)], at_ ++ [(i : Int) + 1]⟩) _ ?_ (by first | omega | (dsimp only; omega) | (simp; omega)) ?_; (· exact ⟨by omega, kin2, kl2⟩); (refine le_gen [] ?_ ?_ <;> first | trivial | (simp [*, netHA, ptH_snoc, nxR_snoc, rdC_snoc, laR, neR, ptA, cPts, enA_snoc, Nat.add_mul, AV.lt, NilF]; done)))
          · rw [List.concat_eq_append] at hr
            subst hr
            simp only [newH, ptH_snoc, nxR_snoc, rdC_snoc]
            repeat' (first | (with_reducible first | refine stop_at (id := 9) ?_ | refine awp_seq ?_ | refine awp_skip ?_ | refine awp_region ?_ | refine awp_condM ?_ | refine And.intro ?_ ?_ | exact EqV_w | exact EqE_w | exact EqV_fn | exact EqE_fn | exact EqV_gd | exact EqE_gd | refine condM_splitD ?_ ?_ | intro _) | (simp [*, hltI, hlaE, hlt, hgt]))
            all_goals try first | exact inI64 (by omega) (by omega) | omega
            refine ⟨awp_le (st' := ⟨[(9, .w false false (.int .i64 i)), (8, .msl 6 (at_.length + 1) 1 0 (at_.length + 1)), (2, .ptr 0 2 0), (5, .ptr 1 2 0), (6, .ptr 2 1 0), (7, .w true false (.sl L.length (strP L)))], [(1, [.msl 3 places.length 1 0 places.length, .msl 4 ((l ++ [r]).length * 5 + 5) 5 0 ((l ++ [r]).length + 1)]), (2, [.msl 5 (ends.length * 2 + 2) 2 0 (ends.length + 1)]), (3, stA places), (4, roA (l ++ [r]) ++ neR x v), (5, enA ends ++ [.w false false (.str y), .w false false (.str z)]), (6, iA (at_ ++ [(i : Int) + 1])), (0, [nilA, nilA])], 7, 116⟩) (by refine le_gen [7] ?_ ?_ <;> first | trivial | (simp [roA, cRoads, cRoad, laR, neR]; done)) ?_⟩
            generalize l ++ [r] = q at *
            repeat' (first | (with_reducible first | refine awp_region ?_ | refine And.intro ?_ ?_ | exact EqV_w | exact EqE_w | exact EqV_fn | exact EqE_fn | exact EqV_gd | exact EqE_gd | intro _) | (simp [*, hltI, hlt]))
            all_goals try first | exact inI64 (by omega) (by omega) | omega
            (refine loopK_normal _ _ _ _ _ (i + 1, ⟨places, q ++ [⟨x, 0, 0, v, []⟩], ends ++ [(y, z)], at_ ++ [(i : Int) + 1]⟩) _ ?_ (by first | omega | (dsimp only; omega) | (simp; omega)) ?_; (· exact ⟨by omega, kin2, kl2⟩); (refine le_gen [] ?_ ?_ <;> first | trivial | (simp [*, netHA, ptH_snoc, nxR_snoc, rdC_snoc, laR, neR, ptA, cPts, enA_snoc, Nat.add_mul, AV.lt, NilF]; done)))
        · have hll := (show linesD d0 1 L = _ from kl).trans (lines_bad hla2 f1)
          have hres := (show resL' L = _ from kR).symm.trans (res_inl hll)
          obtain ⟨rfl, h2⟩ := Prod.mk.inj hres
          obtain ⟨rfl, rfl⟩ := Prod.mk.inj h2
          clear hres hll f1 hlin
          repeat' (first | (with_reducible first | refine stop_at (id := 14) ?_ | refine awp_seq ?_ | refine awp_condM ?_ | exact EqV_w | exact EqE_w | exact EqV_fn | exact EqE_fn | exact EqV_gd | exact EqE_gd | intro _) | (simp [*, hltI, hlaE, hlt]))
          all_goals try first | exact inI64 (by omega) (by omega) | omega
          refine ⟨awp_le (st' := ⟨[(2, .ptr 0 2 0), (9, .w false false (.int .i64 i))], badH, 7, 116⟩) (by refine le_gen [] ?_ ?_ <;> first | trivial | (simp [badH]; done)) ?_⟩
          repeat' (first | (with_reducible first | refine awp_ret ?_ | refine awp_region ?_ | refine And.intro ?_ ?_ | exact EqV_w | exact EqE_w | exact EqV_fn | exact EqE_fn | exact EqV_gd | exact EqE_gd | intro _) | (simp [*, badH, noNet, strs, cRoads]))
          all_goals try first | exact inI64 (by omega) (by omega) | omega
        · have hll := (show linesD d0 1 L = _ from kl).trans (lines_bad hla2 f1)
          have hres := (show resL' L = _ from kR).symm.trans (res_inl hll)
          obtain ⟨rfl, h2⟩ := Prod.mk.inj hres
          obtain ⟨rfl, rfl⟩ := Prod.mk.inj h2
          clear hres hll f1 hlin
          repeat' (first | (with_reducible first | refine stop_at (id := 14) ?_ | refine awp_seq ?_ | refine awp_condM ?_ | exact EqV_w | exact EqE_w | exact EqV_fn | exact EqE_fn | exact EqV_gd | exact EqE_gd | intro _) | (simp [*, hltI, hlaE, hlt]))
          all_goals try first | exact inI64 (by omega) (by omega) | omega
          refine ⟨awp_le (st' := ⟨[(2, .ptr 0 2 0), (9, .w false false (.int .i64 i))], badH, 7, 116⟩) (by refine le_gen [] ?_ ?_ <;> first | trivial | (simp [badH]; done)) ?_⟩
          repeat' (first | (with_reducible first | refine awp_ret ?_ | refine awp_region ?_ | refine And.intro ?_ ?_ | exact EqV_w | exact EqE_w | exact EqV_fn | exact EqE_fn | exact EqV_gd | exact EqE_gd | intro _) | (simp [*, badH, noNet, strs, cRoads]))
          all_goals try first | exact inI64 (by omega) (by omega) | omega
    · have hiL : i = L.length := by omega
      subst hiL
      have kll := keep (show linesD d0 1 L = .inr d by rw [show linesD d0 1 L = _ from hl, List.drop_length]; rfl)
      clear hl
      repeat' (first | (with_reducible first | refine awp_seq ?_ | refine awp_exit ?_ | refine awp_region ?_ | refine awp_condM ?_ | exact EqV_w | exact EqE_w | exact EqV_fn | exact EqE_fn | exact EqV_gd | exact EqE_gd | intro _) | (simp [*]))
      all_goals try first | exact inI64 (by omega) (by omega) | omega
      obtain ⟨places, roads, ends, at_⟩ := d
      rcases List.eq_nil_or_concat roads with hr | ⟨l, r, hr⟩
      · subst hr
        simp only [netHA, ptH_nil, nxR_nil, rdC_nil, List.append_nil]
        (refine finW_intro ⟨places, [], ends, at_⟩ ?_ ?_; (· exact ⟨kin, kll⟩); (refine le_gen [] ?_ ?_ <;> first | trivial | (simp [*, roA, cRoads]; done)))
      · rw [List.concat_eq_append] at hr
        subst hr
        simp only [netHA, ptH_snoc, nxR_snoc, rdC_snoc]
        (refine finW_intro ⟨places, l ++ [r], ends, at_⟩ ?_ ?_; (· exact ⟨kin, kll⟩); (refine le_gen [7] ?_ ?_ <;> first | trivial | (simp [*, roA, cRoads, cRoad, laR]; done)))
  · clear kz c1
    obtain ⟨hin, hl⟩ := hf
    have hres : resL' L = (N, e1, e2) := kR
    unfold resL' at hres
    rw [show linesD d0 1 L = .inr d from hl] at hres
    dsimp only at hres
    have ck := place_d hin (by omega)
    have hni := netIn_zip hin (by omega)
    have eok := endsD_ok d.places d.roads d.ends d.at_ hin.ne hin.na
    have ebad := endsD_bad d.places d.roads d.ends d.at_
    have hne := hin.ne
    have hna := hin.na
    have hnr := hin.nr
    obtain ⟨places, roads, ends, at_⟩ := d
    dsimp only at *
    have kck := keep ck
    have kres := keep hres
    have keok := keep eok
    have kebad := keep (fun j => ebad j hne hna)
    clear ck hres eok ebad hl hin kR kLs
    repeat' (first | (with_reducible first | refine awp_seq ?_ | refine awp_region ?_ | exact EqV_w | exact EqE_w | exact EqV_fn | exact EqE_fn | exact EqV_gd | exact EqE_gd | intro _) | (simp [*]))
    refine awp_for4 7 (fun (k : Nat) => k ≤ ends.length ∧ Keep (∀ j, j < k → okE places (nth ends j))) [2, 5, 6, 8] (fun (k : Nat) => [(12, .w false false (.int .i64 k))]) [1, 2, 3, 5, 6, 0] (fun (k : Nat) => [(4, roA (endK places roads ends k))]) (fun (k : Nat) => ends.length - k) (fun (_u : Unit) => Keep (∀ j, j < ends.length → okE places (nth ends j))) [2, 5] (fun (_u : Unit) => []) [1, 2, 3, 5, 6, 0] (fun (_u : Unit) => [(4, roA (List.zipWith (setE places) roads ends))]) (0) ⟨Nat.zero_le _, keep (fun j hj => absurd hj (Nat.not_lt_zero _))⟩ (le_gen [] (by simp [endK_zero]) (by simp [endK_zero])) (fun k hk => ?_) (fun _u hf => ?_)
    · obtain ⟨hk, hj⟩ := hk
      by_cases hlt : k < ends.length
      · have hlt2 : k < roads.length := by omega
        have hlt3 : k < at_.length := by omega
        have hltI : (k : Int) < (ends.length : Int) := by omega
        have hltI2 : (k : Int) < (roads.length : Int) := by omega
        have hltI3 : (k : Int) < (at_.length : Int) := by omega
        have g0 := enA_0 ends k hlt
        have g1 := enA_1 ends k hlt
        have gl := endK_len places roads ends k hne
        have ck := (show ∀ j s, RealCall _ _ _ _ _ from kck) k
        by_cases hok : okE places (nth ends k)
        · have hgl := endK_succ places roads ends k hne hlt2
          have hle := roA_le2 (endK places roads ends k) k (idxOf places (nth ends k).1) (idxOf places (nth ends k).2) (by rw [gl]; exact hlt2)
          rw [endK_nth places roads ends k hne hlt2] at hle
          rw [show ({ nth roads k with frm := idxOf places (nth ends k).1, to := idxOf places (nth ends k).2 } : Road) = setE places (nth roads k) (nth ends k) from rfl, ← hgl] at hle
          have hjn := keep (show ∀ j, j < k + 1 → okE places (nth ends j) from fun j hjk => by
            rcases Nat.lt_or_ge j k with h | h
            · exact (show ∀ j, j < k → okE places (nth ends j) from hj) j h
            · rw [show j = k by omega]; exact hok)
          unfold okE at hok
          obtain ⟨o1, o2⟩ := hok
          have n1 : ¬ idxOf places (nth ends k).1 < 0 := by omega
          have n2 : ¬ idxOf places (nth ends k).2 < 0 := by omega
          have kle := keep hle
          clear hj hgl o1 o2 hle
          repeat' (first | (with_reducible first | refine awp_seq ?_ | refine awp_blockS ?_ | refine awp_skip ?_ | refine awp_region ?_ | refine awp_regionD (id := 20) 16 mixed (by decide +kernel) ?_ | refine awp_condM ?_ | refine And.intro ?_ ?_ | exact EqV_w | exact EqE_w | exact EqV_fn | exact EqE_fn | exact EqV_gd | exact EqE_gd | refine cw (ck _) ?_ | intro _) | (simp [*, hltI, hlt, hlt2, hltI2, g0, g1, gl, n1, n2]) | (refine cw_eq (ck _) ?_ ?_; (· (simp [*]; done))))
          all_goals try first | exact inI64 (by omega) (by omega) | omega
          have hle2 : ∀ (D : List Nat) (h : Heap) (n n' : Nat) (o1 f1 o2 f2 : Bool), cellsLe D h n n' (((roA (endK places roads ends k)).set (k * 5 + 1) (.w o1 f1 (.int .i64 (idxOf places (nth ends k).1)))).set (k * 5 + 2) (.w o2 f2 (.int .i64 (idxOf places (nth ends k).2)))) (roA (endK places roads ends (k + 1))) := kle
          (refine loopK_normal _ _ _ _ _ (k + 1) _ ?_ (by first | omega | (dsimp only; omega) | (simp; omega)) ?_; (· exact ⟨by omega, hjn⟩); (refine le_gen [] ?_ ?_ <;> first | trivial | (simp [*, hle2]; done)))
        · have hb := (show ∀ j, j < ends.length → (∀ i, i < j → okE places (nth ends i)) → ¬ okE places (nth ends j) → endsD places roads ends at_ = .inl (nth at_ j) from kebad) k hlt hj hok
          have hres := show (match endsD places roads ends at_ with | .inl k => (noNet, k, 6) | .inr l => if (netS ⟨places, l⟩).2.2 = 0 then (⟨places, l⟩, 0, 0) else (noNet, 0, (netS ⟨places, l⟩).2.2)) = (N, e1, e2) from kres
          rw [hb] at hres
          obtain ⟨rfl, h2⟩ := Prod.mk.inj hres
          obtain ⟨rfl, rfl⟩ := Prod.mk.inj h2
          have ga := iA_get at_ k hlt3
          clear hres hb hj
          unfold okE at hok
          by_cases n1 : idxOf places (nth ends k).1 < 0
          · clear hok
            repeat' (first | (with_reducible first | refine awp_seq ?_ | refine awp_blockS ?_ | refine awp_skip ?_ | refine awp_ret ?_ | refine awp_region ?_ | refine awp_regionD (id := 20) 16 mixed (by decide +kernel) ?_ | refine awp_regionS (id := 22) [0, 1, 2, 3, 4] [5, 6, 7] [[], [.slot 2], [.slot 2], [.slot 2], [.slot 2]] [[.slot 2], [], []] mixed (by decide +kernel) ?_ | refine awp_condM ?_ | refine And.intro ?_ ?_ | exact EqV_w | exact EqE_w | exact EqV_fn | exact EqE_fn | exact EqV_gd | exact EqE_gd | refine cw (ck _) ?_ | intro _) | (simp [*, hltI, hlt, hlt2, hltI2, hltI3, hlt3, g0, g1, gl, n1, noNet, srn, crn]) | (refine cw_eq (ck _) ?_ ?_; (· (simp [*]; done))))
            all_goals try first | exact inI64 (by omega) (by omega) | omega
          · have n2 : idxOf places (nth ends k).2 < 0 := by omega
            clear hok
            repeat' (first | (with_reducible first | refine awp_seq ?_ | refine awp_blockS ?_ | refine awp_skip ?_ | refine awp_ret ?_ | refine awp_region ?_ | refine awp_regionD (id := 20) 16 mixed (by decide +kernel) ?_ | refine awp_regionS (id := 22) [0, 1, 2, 3, 4] [5, 6, 7] [[], [.slot 2], [.slot 2], [.slot 2], [.slot 2]] [[.slot 2], [], []] mixed (by decide +kernel) ?_ | refine awp_condM ?_ | refine And.intro ?_ ?_ | exact EqV_w | exact EqE_w | exact EqV_fn | exact EqE_fn | exact EqV_gd | exact EqE_gd | refine cw (ck _) ?_ | intro _) | (simp [*, hltI, hlt, hlt2, hltI2, hltI3, hlt3, g0, g1, gl, n1, n2, noNet, srn, crn]) | (refine cw_eq (ck _) ?_ ?_; (· (simp [*]; done))))
            all_goals try first | exact inI64 (by omega) (by omega) | omega
      · have hke : k = ends.length := by omega
        have hz : endK places roads ends k = List.zipWith (setE places) roads ends := by rw [hke]; exact endK_all _ _ _ hne
        have hz2 := endK_all places roads ends hne
        rw [hne] at hz2
        have hltI : ¬ (k : Int) < (roads.length : Int) := by omega
        have hj' := keep (show ∀ j, j < ends.length → okE places (nth ends j) from hke ▸ (show ∀ j, j < k → okE places (nth ends j) from hj))
        clear hj
        repeat' (first | (with_reducible first | refine awp_seq ?_ | refine awp_exit ?_ | refine awp_region ?_ | refine awp_condM ?_ | exact EqV_w | exact EqE_w | exact EqV_fn | exact EqE_fn | exact EqV_gd | exact EqE_gd | intro _) | (simp [*, hltI]))
        all_goals try first | exact inI64 (by omega) (by omega) | omega
        all_goals (refine finW_intro () ?_ ?_; (· first | exact hj' | (rw [← hne]; exact hj')); (refine le_gen [] ?_ ?_ <;> first | trivial | (simp [*, hz, hz2]; done)))
    · have hb := (show (∀ j, j < ends.length → okE places (nth ends j)) → endsD places roads ends at_ = .inr (List.zipWith (setE places) roads ends) from keok) hf
      have hres := show (match endsD places roads ends at_ with | .inl k => (noNet, k, 6) | .inr l => if (netS ⟨places, l⟩).2.2 = 0 then (⟨places, l⟩, 0, 0) else (noNet, 0, (netS ⟨places, l⟩).2.2)) = (N, e1, e2) from kres
      rw [hb] at hres
      dsimp only at hres
      have cn := rNetErr_c _ hni
      unfold aNet cNet at cn
      have hzl : (List.zipWith (setE places) roads ends).length = roads.length := by simp [hne]
      dsimp only at cn
      rw [hzl, strsP] at cn
      generalize List.zipWith (setE places) roads ends = Z at *
      by_cases he : (netS ⟨places, Z⟩).2.2 = 0
      · rw [if_pos he] at hres
        obtain ⟨rfl, h2⟩ := Prod.mk.inj hres
        obtain ⟨rfl, rfl⟩ := Prod.mk.inj h2
        rw [he] at cn
        clear hres he hb keok kebad kck kres hf hni
        repeat' (first | (with_reducible first | refine awp_seq ?_ | refine awp_skip ?_ | refine awp_ret ?_ | refine awp_region ?_ | refine awp_condM ?_ | refine And.intro ?_ ?_ | exact EqV_w | exact EqE_w | exact EqV_fn | exact EqE_fn | exact EqV_gd | exact EqE_gd | refine cw (cn) ?_ | intro _) | (simp [*, strsP, hzl]) | (refine cw_eq (cn) ?_ ?_; (· (simp [*]; done))))
      · rw [if_neg he] at hres
        obtain ⟨rfl, h2⟩ := Prod.mk.inj hres
        obtain ⟨rfl, rfl⟩ := Prod.mk.inj h2
        generalize (netS ⟨places, Z⟩).2.2 = E at *
        clear hres hb keok kebad kck kres hf hni
        repeat' (first | (with_reducible first | refine awp_seq ?_ | refine awp_ret ?_ | refine awp_region ?_ | refine awp_condM ?_ | refine And.intro ?_ ?_ | exact EqV_w | exact EqE_w | exact EqV_fn | exact EqE_fn | exact EqV_gd | exact EqE_gd | refine cw (cn) ?_ | intro _) | (simp [*, he, strsP, hzl, noNet, srn, crn]) | (refine cw_eq (cn) ?_ ?_; (· (simp [*]; done))))
end Go.Proofs.YtfpamehamllndaaGreatDoor

