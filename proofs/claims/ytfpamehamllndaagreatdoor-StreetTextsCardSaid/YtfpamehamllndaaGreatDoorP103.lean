/- Contracts of functions for this claim: lemmas alone. -/
import Derived.Test.YtfpamehamllndaaGreatDoorP101
import Derived.Test.YtfpamehamllndaaGreatDoorP9
import Derived.Test.YtfpamehamllndaaGreatDoorLbg
import Derived.Test.YtfpamehamllndaaGreatDoorP104
set_option linter.unusedSimpArgs false
set_option linter.unusedVariables false
namespace Go.Proofs.YtfpamehamllndaaGreatDoor
open Go Go.Fi Go.RowKit Go.Shelf
set_option maxRecDepth 20000

/-! ### the text of a net -/
abbrev wPlace : ByteArray := ⟨#[112, 108, 97, 99, 101]⟩
abbrev wRoad : ByteArray := ⟨#[114, 111, 97, 100]⟩
abbrev wTime : ByteArray := ⟨#[116, 105, 109, 101]⟩
def placeL (n : Net) (k : Nat) : ByteArray := lineT [wPlace, nth n.places k] []
def roadL (n : Net) (r : Road) : ByteArray := lineT [wRoad, r.name, nth n.places r.frm.toNat, nth n.places r.to.toNat] [r.metres]
def timeL (p : Pt) : ByteArray := lineT [wTime] [p.at_, p.lo, p.hi]
def placesT (n : Net) : Nat → ByteArray
  | 0 => .empty
  | k + 1 => placesT n k ++ placeL n k
def ptsT (l : List Pt) (a : ByteArray) : Nat → ByteArray
  | 0 => a
  | k + 1 => ptsT l a k ++ timeL (nth l k)
def roadsT (n : Net) (a : ByteArray) : Nat → ByteArray
  | 0 => a
  | k + 1 => ptsT (nth n.roads k).pts (roadsT n a k ++ roadL n (nth n.roads k)) (nth n.roads k).pts.length
def printS (n : Net) : ByteArray := roadsT n (placesT n n.places.length) n.roads.length

theorem name_sz {s : ByteArray} (h : nameB s = true) : s.size ≤ 12 := by
  unfold nameB at h
  simp only [Bool.and_eq_true, decide_eq_true_eq] at h
  exact h.2
theorem placeL_in {n : Net} (ok : NetOk n) {k : Nat} (hk : k < n.places.length) : LineIn [wPlace, nth n.places k] [] := by
  have := name_sz (ok.pname k hk).1
  refine ⟨by simp, fun x hx => ?_, by simp, fun k hk => by simp at hk, fun k hk => by simp at hk⟩
  rcases List.mem_cons.1 hx with e | hx
  · subst e; decide
  · rw [List.mem_singleton.1 hx]; omega
theorem roadL_in {n : Net} (ok : NetOk n) {k : Nat} (hk : k < n.roads.length) : LineIn [wRoad, (nth n.roads k).name, nth n.places (nth n.roads k).frm.toNat, nth n.places (nth n.roads k).to.toNat] [(nth n.roads k).metres] := by
  have h1 := name_sz (ok.rname k hk).1
  have r := ok.road k hk
  have h2 := name_sz (ok.pname (nth n.roads k).frm.toNat (by have := r.frm; omega)).1
  have h3 := name_sz (ok.pname (nth n.roads k).to.toNat (by have := r.to; omega)).1
  have h4 := r.met
  refine ⟨by simp, fun x hx => ?_, by simp, fun j hj => ?_, fun j hj => ?_⟩
  · simp only [List.mem_cons, List.not_mem_nil, or_false] at hx
    rcases hx with e | e | e | e <;> subst e
    · decide
    all_goals omega
  · simp only [List.length_cons, List.length_nil] at hj
    obtain rfl : j = 0 := by omega
    show _ ≤ (nth n.roads k).metres
    omega
  · simp only [List.length_cons, List.length_nil] at hj
    obtain rfl : j = 0 := by omega
    show (nth n.roads k).metres ≤ _
    omega
theorem timeL_in {l : List Pt} (ok : PtsOk l) {k : Nat} (hk : k < l.length) : LineIn [wTime] [(nth l k).at_, (nth l k).lo, (nth l k).hi] := by
  have h1 := ok.at_ k hk
  have h2 := ok.val k hk
  refine ⟨by simp, fun x hx => ?_, by simp, fun j hj => ?_, fun j hj => ?_⟩
  · rw [List.mem_singleton.1 hx]; decide
  · simp only [List.length_cons, List.length_nil] at hj
    rcases (show j = 0 ∨ j = 1 ∨ j = 2 by omega) with rfl | rfl | rfl
    · show _ ≤ (nth l k).at_; omega
    · show _ ≤ (nth l k).lo; omega
    · show _ ≤ (nth l k).hi; omega
  · simp only [List.length_cons, List.length_nil] at hj
    rcases (show j = 0 ∨ j = 1 ∨ j = 2 by omega) with rfl | rfl | rfl
    · show (nth l k).at_ ≤ _; omega
    · show (nth l k).lo ≤ _; omega
    · show (nth l k).hi ≤ _; omega
theorem placesT_size {n : Net} (ok : NetOk n) : ∀ k, k ≤ n.places.length → (placesT n k).size ≤ k * 7008
  | 0, _ => by simp [placesT]
  | k + 1, h => by
    have h1 := placesT_size ok k (by omega)
    have h2 := lineT_size (placeL_in ok (k := k) (by omega))
    unfold placesT placeL
    rw [ByteArray.size_append]; omega
theorem ptsT_size {l : List Pt} (ok : PtsOk l) (a : ByteArray) : ∀ k, k ≤ l.length → (ptsT l a k).size ≤ a.size + k * 7008
  | 0, _ => by simp [ptsT]
  | k + 1, h => by
    have h1 := ptsT_size ok a k (by omega)
    have h2 := lineT_size (timeL_in ok (k := k) (by omega))
    unfold ptsT timeL
    rw [ByteArray.size_append]; omega
theorem roadsT_size {n : Net} (ok : NetOk n) (a : ByteArray) : ∀ k, k ≤ n.roads.length → (roadsT n a k).size ≤ a.size + k * 63072
  | 0, _ => by simp [roadsT]
  | k + 1, h => by
    have h1 := roadsT_size ok a k (by omega)
    have r := ok.road k (by omega)
    have h2 := lineT_size (roadL_in ok (k := k) (by omega))
    have h3 := ptsT_size r.pts (roadsT n a k ++ roadL n (nth n.roads k)) _ (Nat.le_refl _)
    have h4 := r.len
    have h5 : (nth n.roads k).pts.length * 7008 ≤ 8 * 7008 := Nat.mul_le_mul_right _ h4
    unfold roadsT
    rw [ByteArray.size_append] at h3
    unfold roadL at h3 ⊢
    omega

set_option maxHeartbeats 4000000 in
theorem print_ok (n : Net) (h : NetIn n) (ok : NetOk n) (he : (netS n).2.2 = 0) : RealCall Tryz.prog 6 [aNet n] (.tup [.str (printS n), .int .i64 0]) true := by
  have co := open_c n h
  rw [he] at co
  refine realcall_of_awpd (T := joinRen.t 72) (e := joinRen.t 5) (tB := 6) Tryz.func6 (by kernel_rfl) rfl (Nat.le_of_ble_eq_true (by kernel_rfl)) ?_
  simp only [Tryz.results6, Tryz.ntmps6]
  refine awpd_sub (env' := [(0, aNet n)]) (fun p hp => by simpa using hp) ?_
  unfold aNet at *
  refine awpd_seqH [(1, .ip (cNet n) 0)] none (fun K2 k2 => awpd_dk ?_) ?_
  · unfold cNet at *
    repeat' (first | (with_reducible first | refine awp_region ?_ | exact EqV_w | exact EqE_w | exact EqV_fn | exact EqE_fn | exact EqV_gd | exact EqE_gd | intro _) | (simp [*]))
    exact dk_intro _ rfl trivial (by simp [frz]) k2.out
  refine awpd_seqH [(1, .ip (cNet n) 0)] none (fun K2 k2 => ?_) ?_
  · refine awpd_seqH [(1, .ip (cNet n) 0), (5, .int .i64 0)] none (fun K3 k3 => awpd_dk ?_) ?_
    · unfold cNet at *
      repeat' (first | (with_reducible first | refine awp_region ?_ | refine And.intro ?_ ?_ | exact EqV_w | exact EqE_w | exact EqV_fn | exact EqE_fn | exact EqV_gd | exact EqE_gd | refine cw (co) ?_ | intro _) | (simp [*]) | (refine cw_eq (co) ?_ ?_; (· (simp [*]; done))))
      exact dk_intro _ rfl trivial (by simp [frz]) k3.out
    refine awpd_seqH [(1, .ip (cNet n) 0), (19, .bool false)] none (fun K3 k3 => awpd_dk ?_) ?_
    · clear co
      unfold cNet at *
      repeat' (first | (with_reducible first | refine awp_region ?_ | exact EqV_w | exact EqE_w | exact EqV_fn | exact EqE_fn | exact EqV_gd | exact EqE_gd | intro _) | (simp [*]))
      exact dk_intro _ rfl trivial (by simp [frz]) k3.out
    exact awpd_cond (b := false) (by simp) (fun h => by cases h) (fun _ => awpd_sub (env' := [(1, .ip (cNet n) 0)]) (fun p hp => by simp at hp; simp [hp]) (awpd_skip k2.out))
  clear co
  refine awpd_seqH [(1, .ip (cNet n) 0)] (some .empty) (fun K2 k2 => awpd_region (dls_new rfl rfl rfl (by decide) (i := _) (ad := .nilIface) (sl := .nilIface) rfl rfl (fun p hp => ⟨hp, by simp at hp; simp [hp]⟩) (dls_nil k2.out))) ?_
  refine awpd_seqH [(1, .ip (cNet n) 0)] (some (placesT n n.places.length)) (fun K2 k2 => ?_) ?_
  · refine awpd_seqH [(1, .ip (cNet n) 0), (22, .sl n.places.length (strs n.places)), (23, .int .i64 n.places.length), (24, .int .i64 0)] (some .empty) (fun K3 k3 => awpd_dk ?_) ?_
    · have hnp := h.np
      unfold cNet at *
      repeat' (first | (with_reducible first | refine awp_region ?_ | exact EqV_w | exact EqE_w | exact EqV_fn | exact EqE_fn | exact EqV_gd | exact EqE_gd | intro _) | (simp [*]))
      exact dk_intro _ rfl rfl (by simp [frz]) k3.out
    refine awpd_for (fun k : Nat => k ≤ n.places.length) (fun k => [(1, .ip (cNet n) 0), (22, .sl n.places.length (strs n.places)), (23, .int .i64 n.places.length), (24, .int .i64 k)]) (fun k => some (placesT n k)) (fun k => n.places.length - k) 0 [(1, .ip (cNet n) 0)] (some (placesT n n.places.length)) (Nat.zero_le _) (fun p hp => hp) rfl (fun k hk K3 kN kX => ?_) k2.out
    clear k2
    by_cases hlt : k < n.places.length
    · refine awpd_seqH [(1, .ip (cNet n) 0), (22, .sl n.places.length (strs n.places)), (23, .int .i64 n.places.length), (24, .int .i64 k), (25, .bool true)] (some (placesT n k)) (fun K4 k4 => awpd_dk ?_) ?_
      · clear kN kX
        repeat' (first | (with_reducible first | refine awp_region ?_ | exact EqV_w | exact EqE_w | exact EqV_fn | exact EqE_fn | exact EqV_gd | exact EqE_gd | intro _) | (simp [*, hlt]))
        exact dk_intro _ rfl rfl (by simp [frz]) k4.out
      refine awpd_seqH [(1, .ip (cNet n) 0), (22, .sl n.places.length (strs n.places)), (23, .int .i64 n.places.length), (24, .int .i64 k)] (some (placesT n k)) (fun K4 k4 => awpd_cond (b := true) (by simp) (fun _ => awpd_sub (fun p hp => by simp only [List.mem_cons, List.not_mem_nil, or_false] at hp ⊢; rcases hp with e | e | e | e <;> simp [e]) (awpd_skip k4.out)) (fun h => by cases h)) ?_
      refine awpd_seqH [(1, .ip (cNet n) 0), (22, .sl n.places.length (strs n.places)), (23, .int .i64 n.places.length), (24, .int .i64 k)] (some (placesT n (k + 1))) (fun K4 k4 => awpd_blockH _ _ (fun K5 k5 => ?_) k4.out) ?_
      · refine awpd_seqH [(1, .ip (cNet n) 0), (22, .sl n.places.length (strs n.places)), (23, .int .i64 n.places.length), (24, .int .i64 k), (8, .str (nth n.places k))] (some (placesT n k)) (fun K6 k6 => awpd_dk ?_) ?_
        · clear kN kX k5
          repeat' (first | (with_reducible first | refine awp_region ?_ | exact EqV_w | exact EqE_w | exact EqV_fn | exact EqE_fn | exact EqV_gd | exact EqE_gd | intro _) | (simp [*, hlt]))
          exact dk_intro _ rfl rfl (by simp [frz]) k6.out
        clear kN kX k4
        refine awpd_region (dls_mls (mls_ops 2 ?_))
        simp
        refine mls_inl (g := 20) rfl Tryz.func20 (by kernel_rfl) (c := Tryz.f20.body.getD .skip) rfl (Nat.le_of_ble_eq_true (by kernel_rfl)) (by simp [dOk]) rfl ?_
        refine line0_w [wPlace, nth n.places k] (placeL_in ok hlt) (fun h' n' => ?_)
        have hs1 := placesT_size ok k (by omega)
        have hs2 := lineT_size (placeL_in ok hlt)
        have hnp := ok.np
        refine mls_write write_C rfl rfl (by simp [dOk]) (by simp) ⟨rfl, _, _, _, rfl, ?_, [(1, .ip (cNet n) 0), (22, .sl n.places.length (strs n.places)), (23, .int .i64 n.places.length), (24, .int .i64 k)], by simp [frz, put, Fi.get], k5.out⟩
        show (placesT n k).size + (lineT [wPlace, nth n.places k] []).size ≤ _
        have := Nat.mul_le_mul_right 7008 (show k ≤ 20 by omega)
        omega
      · refine awpd_hide [(1, .ip (cNet n) 0), (22, .sl n.places.length (strs n.places)), (23, .int .i64 n.places.length), (24, .int .i64 (k + 1 : Nat))] (some (placesT n (k + 1))) (fun K4 k4 => awpd_dk ?_) (kN.out (k + 1) (by omega) (by omega))
        have hnp := h.np
        clear kN kX
        repeat' (first | (with_reducible first | refine awp_region ?_ | refine And.intro ?_ ?_ | exact EqV_w | exact EqE_w | exact EqV_fn | exact EqE_fn | exact EqV_gd | exact EqE_gd | intro _) | (simp [*]))
        all_goals try first | exact inI64 (by omega) (by omega) | omega
        exact dk_intro _ rfl rfl (by simp [frz]) k4.out
    · have hke : k = n.places.length := by omega
      subst hke
      refine awpd_seqH [(1, .ip (cNet n) 0), (25, .bool false)] (some (placesT n n.places.length)) (fun K4 k4 => awpd_dk ?_) ?_
      · clear kN kX
        repeat' (first | (with_reducible first | refine awp_region ?_ | exact EqV_w | exact EqE_w | exact EqV_fn | exact EqE_fn | exact EqV_gd | exact EqE_gd | intro _) | (simp [*]))
        exact dk_intro _ rfl rfl (by simp [frz]) k4.out
      exact awpd_seq (awpd_cond (b := false) (by simp) (fun h => by cases h) (fun _ => awpd_sub (env' := [(1, .ip (cNet n) 0)]) (fun p hp => by simp at hp; simp [hp]) (awpd_exit kX.out)))
  generalize hA : placesT n n.places.length = A
  have hAz : A.size ≤ 140160 := by
    have h1 := placesT_size ok _ (Nat.le_refl _)
    have h2 := Nat.mul_le_mul_right 7008 ok.np
    rw [hA] at h1
    omega
  have hP : printS n = roadsT n A n.roads.length := by rw [← hA]; rfl
  rw [hP]
  clear hP hA
  refine awpd_seqH [] (some (roadsT n A n.roads.length)) (fun K2 k2 => ?_) ?_
  · refine awpd_seqH [(1, .ip (cNet n) 0), (34, .sl n.roads.length (cRoads n.roads)), (35, .int .i64 n.roads.length), (36, .int .i64 0)] (some A) (fun K3 k3 => awpd_dk ?_) ?_
    · have hnr := h.nr
      unfold cNet at *
      repeat' (first | (with_reducible first | refine awp_region ?_ | exact EqV_w | exact EqE_w | exact EqV_fn | exact EqE_fn | exact EqV_gd | exact EqE_gd | intro _) | (simp [*]))
      exact dk_intro _ rfl rfl (by simp [frz]) k3.out
    refine awpd_for (fun k : Nat => k ≤ n.roads.length) (fun k => [(1, .ip (cNet n) 0), (34, .sl n.roads.length (cRoads n.roads)), (35, .int .i64 n.roads.length), (36, .int .i64 k)]) (fun k => some (roadsT n A k)) (fun k => n.roads.length - k) 0 [] (some (roadsT n A n.roads.length)) (Nat.zero_le _) (fun p hp => hp) rfl (fun k hk K3 kN kX => ?_) k2.out
    clear k2
    by_cases hlt : k < n.roads.length
    · refine awpd_seqH [(1, .ip (cNet n) 0), (34, .sl n.roads.length (cRoads n.roads)), (35, .int .i64 n.roads.length), (36, .int .i64 k), (37, .bool true)] (some (roadsT n A k)) (fun K4 k4 => awpd_dk ?_) ?_
      · clear kN kX
        repeat' (first | (with_reducible first | refine awp_region ?_ | exact EqV_w | exact EqE_w | exact EqV_fn | exact EqE_fn | exact EqV_gd | exact EqE_gd | intro _) | (simp [*, hlt]))
        exact dk_intro _ rfl rfl (by simp [frz]) k4.out
      refine awpd_seqH [(1, .ip (cNet n) 0), (34, .sl n.roads.length (cRoads n.roads)), (35, .int .i64 n.roads.length), (36, .int .i64 k)] (some (roadsT n A k)) (fun K4 k4 => awpd_cond (b := true) (by simp) (fun _ => awpd_sub (fun p hp => by simp only [List.mem_cons, List.not_mem_nil, or_false] at hp ⊢; rcases hp with e | e | e | e <;> simp [e]) (awpd_skip k4.out)) (fun h => by cases h)) ?_
      refine awpd_seqH [(1, .ip (cNet n) 0), (34, .sl n.roads.length (cRoads n.roads)), (35, .int .i64 n.roads.length), (36, .int .i64 k)] (some (roadsT n A (k + 1))) (fun K4 k4 => awpd_blockH _ _ (fun K5 k5 => ?_) k4.out) ?_
      · clear kN kX k4
        have rk := ok.road k hlt
        have hin := roadL_in ok hlt
        have hz1 := roadsT_size ok A k (by omega)
        have hz2 := lineT_size hin
        have hnr := ok.nr
        have hmul := Nat.mul_le_mul_right 63072 (show k ≤ 60 by omega)
        have hpl := rk.len
        have hin2 : ∀ j, j < (nth n.roads k).pts.length → LineIn [wTime] [(nth (nth n.roads k).pts j).at_, (nth (nth n.roads k).pts j).lo, (nth (nth n.roads k).pts j).hi] := fun j hj => timeL_in rk.pts hj
        have hptz := ptsT_size rk.pts (roadsT n A k ++ roadL n (nth n.roads k))
        obtain ⟨f, hf⟩ := Int.eq_ofNat_of_zero_le rk.frm.1
        obtain ⟨g, hg⟩ := Int.eq_ofNat_of_zero_le rk.to.1
        have hf2 : f < n.places.length := by have := rk.frm.2; omega
        have hg2 : g < n.places.length := by have := rk.to.2; omega
        have hrs : roadsT n A (k + 1) = ptsT (nth n.roads k).pts (roadsT n A k ++ roadL n (nth n.roads k)) (nth n.roads k).pts.length := rfl
        rw [hrs] at k5
        clear hrs rk
        generalize hrd : nth n.roads k = r at *
        have hL : roadL n r = lineT [wRoad, r.name, nth n.places f, nth n.places g] [r.metres] := by unfold roadL; rw [hf, hg]; rfl
        have hin3 : LineIn [wRoad, r.name, nth n.places f, nth n.places g] [r.metres] := by rw [hf, hg] at hin; exact hin
        rw [hL] at k5 hptz
        have hLz : (lineT [wRoad, r.name, nth n.places f, nth n.places g] [r.metres]).size ≤ 7008 := lineT_size hin3
        have hbz : (roadsT n A k ++ lineT [wRoad, r.name, nth n.places f, nth n.places g] [r.metres]).size ≤ 5000000 := by rw [ByteArray.size_append]; omega
        clear hz2 hin hL
        generalize hQ : roadsT n A k = Q at *
        refine awpd_seqH [(1, .ip (cNet n) 0), (34, .sl n.roads.length (cRoads n.roads)), (35, .int .i64 n.roads.length), (36, .int .i64 k), (10, .ip (cRoad r) 0)] (some Q) (fun K6 k6 => awpd_dk ?_) ?_
        · clear k5 hin2 hptz hin3
          repeat' (first | (with_reducible first | refine awp_region ?_ | refine And.intro ?_ ?_ | exact EqV_w | exact EqE_w | exact EqV_fn | exact EqE_fn | exact EqV_gd | exact EqE_gd | intro _) | (simp [*, hlt, hrd, cRoad]))
          · omega
          exact dk_intro _ rfl rfl (by simp [frz, cRoad, hf, hg]) k6.out
        refine awpd_seqH [(1, .ip (cNet n) 0), (34, .sl n.roads.length (cRoads n.roads)), (35, .int .i64 n.roads.length), (36, .int .i64 k), (10, .ip (cRoad r) 0)] (some (Q ++ lineT [wRoad, r.name, nth n.places f, nth n.places g] [r.metres])) (fun K6 k6 => ?_) ?_
        · clear k5 hin2 hptz
          refine awpd_regionD 18 mixed (by decide +kernel) ?_
          simp [cNet, cRoad, hf, hg, hf2, hg2]
          refine mls_inl (g := 20) rfl Tryz.func20 (by kernel_rfl) (c := Tryz.f20.body.getD .skip) rfl (Nat.le_of_ble_eq_true (by kernel_rfl)) (by simp [dOk]) rfl ?_
          refine line_w [wRoad, r.name, nth n.places f, nth n.places g] [r.metres] hin3 (fun h' n' => ?_)
          refine mls_write write_C rfl rfl (by simp [dOk]) (by simp) ⟨rfl, _, _, _, rfl, ?_, [(1, .ip (cNet n) 0), (34, .sl n.roads.length (cRoads n.roads)), (35, .int .i64 n.roads.length), (36, .int .i64 k), (10, .ip (cRoad r) 0)], by simp [frz, put, Fi.get, cRoad, cNet, hf, hg], k6.out⟩
          rw [ByteArray.size_append] at hbz
          show Q.size + (lineT _ _).size ≤ _
          omega
        clear hin3 hLz hz1
        generalize Q ++ lineT [wRoad, r.name, nth n.places f, nth n.places g] [r.metres] = D at *
        refine awpd_seqH [(1, .ip (cNet n) 0), (34, .sl n.roads.length (cRoads n.roads)), (35, .int .i64 n.roads.length), (36, .int .i64 k), (61, .sl r.pts.length (cPts r.pts)), (62, .int .i64 r.pts.length), (63, .int .i64 0)] (some D) (fun K6 k6 => awpd_dk ?_) ?_
        · clear k5 hin2 hptz
          repeat' (first | (with_reducible first | refine awp_region ?_ | exact EqV_w | exact EqE_w | exact EqV_fn | exact EqE_fn | exact EqV_gd | exact EqE_gd | intro _) | (simp [*, cRoad]))
          exact dk_intro _ rfl rfl (by simp [frz]) k6.out
        refine awpd_for (fun j : Nat => j ≤ r.pts.length) (fun j => [(1, .ip (cNet n) 0), (34, .sl n.roads.length (cRoads n.roads)), (35, .int .i64 n.roads.length), (36, .int .i64 k), (61, .sl r.pts.length (cPts r.pts)), (62, .int .i64 r.pts.length), (63, .int .i64 j)]) (fun j => some (ptsT r.pts D j)) (fun j => r.pts.length - j) 0 [(1, .ip (cNet n) 0), (34, .sl n.roads.length (cRoads n.roads)), (35, .int .i64 n.roads.length), (36, .int .i64 k)] (some (ptsT r.pts D r.pts.length)) (Nat.zero_le _) (fun p hp => hp) rfl (fun j hj K6 kN kX => ?_) k5.out
        clear k5
        have hpz := hptz j hj
        have hmul2 := Nat.mul_le_mul_right 7008 (show j ≤ 8 by omega)
        have hss : ptsT r.pts D (j + 1) = ptsT r.pts D j ++ lineT [wTime] [(nth r.pts j).at_, (nth r.pts j).lo, (nth r.pts j).hi] := rfl
        by_cases hlj : j < r.pts.length
        · have kN1 := Kept.mk (kN.out (j + 1) (by omega) (by omega))
          rw [hss] at kN1
          have hin := hin2 j hlj
          have hLz := lineT_size hin
          clear kN kX hss hptz hin2
          generalize ptsT r.pts D j = W at *
          refine awpd_seqH [(1, .ip (cNet n) 0), (34, .sl n.roads.length (cRoads n.roads)), (35, .int .i64 n.roads.length), (36, .int .i64 k), (61, .sl r.pts.length (cPts r.pts)), (62, .int .i64 r.pts.length), (63, .int .i64 j), (64, .bool true)] (some W) (fun K7 k7 => awpd_dk ?_) ?_
          · clear kN1 hin
            repeat' (first | (with_reducible first | refine awp_region ?_ | exact EqV_w | exact EqE_w | exact EqV_fn | exact EqE_fn | exact EqV_gd | exact EqE_gd | intro _) | (simp [*, hlj]))
            exact dk_intro _ rfl rfl (by simp [frz]) k7.out
          refine awpd_seqH [(1, .ip (cNet n) 0), (34, .sl n.roads.length (cRoads n.roads)), (35, .int .i64 n.roads.length), (36, .int .i64 k), (61, .sl r.pts.length (cPts r.pts)), (62, .int .i64 r.pts.length), (63, .int .i64 j)] (some W) (fun K7 k7 => awpd_cond (b := true) (by simp) (fun _ => awpd_sub (fun p hp => by simp only [List.mem_cons, List.not_mem_nil, or_false] at hp ⊢; rcases hp with e | e | e | e | e | e | e <;> simp [e]) (awpd_skip k7.out)) (fun h => by cases h)) ?_
          refine awpd_seqH [(1, .ip (cNet n) 0), (34, .sl n.roads.length (cRoads n.roads)), (35, .int .i64 n.roads.length), (36, .int .i64 k), (61, .sl r.pts.length (cPts r.pts)), (62, .int .i64 r.pts.length), (63, .int .i64 j)] (some (W ++ lineT [wTime] [(nth r.pts j).at_, (nth r.pts j).lo, (nth r.pts j).hi])) (fun K7 k7 => awpd_blockH _ _ (fun K8 k8 => ?_) k7.out) ?_
          · clear kN1 k7
            generalize hpt : nth r.pts j = q at *
            refine awpd_seqH [(1, .ip (cNet n) 0), (34, .sl n.roads.length (cRoads n.roads)), (35, .int .i64 n.roads.length), (36, .int .i64 k), (61, .sl r.pts.length (cPts r.pts)), (62, .int .i64 r.pts.length), (63, .int .i64 j), (12, .ip (cPt q) 0)] (some W) (fun K9 k9 => awpd_dk ?_) ?_
            · clear k8 hin
              repeat' (first | (with_reducible first | refine awp_region ?_ | refine And.intro ?_ ?_ | exact EqV_w | exact EqE_w | exact EqV_fn | exact EqE_fn | exact EqV_gd | exact EqE_gd | intro _) | (simp [*, hlj, hpt]))
              · omega
              exact dk_intro _ rfl rfl (by simp [frz]) k9.out
            refine awpd_region (dls_mls (mls_ops 10 ?_))
            simp
            refine mls_inl (g := 20) rfl Tryz.func20 (by kernel_rfl) (c := Tryz.f20.body.getD .skip) rfl (Nat.le_of_ble_eq_true (by kernel_rfl)) (by simp [dOk]) rfl ?_
            refine line_w [wTime] [q.at_, q.lo, q.hi] hin (fun h' n' => ?_)
            refine mls_write write_C rfl rfl (by simp [dOk]) (by simp) ⟨rfl, _, _, _, rfl, ?_, [(1, .ip (cNet n) 0), (34, .sl n.roads.length (cRoads n.roads)), (35, .int .i64 n.roads.length), (36, .int .i64 k), (61, .sl r.pts.length (cPts r.pts)), (62, .int .i64 r.pts.length), (63, .int .i64 j)], by simp [frz, put, Fi.get], k8.out⟩
            show W.size + (lineT _ _).size ≤ _
            omega
          · refine awpd_hide [(1, .ip (cNet n) 0), (34, .sl n.roads.length (cRoads n.roads)), (35, .int .i64 n.roads.length), (36, .int .i64 k), (61, .sl r.pts.length (cPts r.pts)), (62, .int .i64 r.pts.length), (63, .int .i64 (j + 1 : Nat))] (some (W ++ lineT [wTime] [(nth r.pts j).at_, (nth r.pts j).lo, (nth r.pts j).hi])) (fun K7 k7 => awpd_dk ?_) kN1.out
            clear kN1 hin
            repeat' (first | (with_reducible first | refine awp_region ?_ | refine And.intro ?_ ?_ | exact EqV_w | exact EqE_w | exact EqV_fn | exact EqE_fn | exact EqV_gd | exact EqE_gd | intro _) | (simp [*]))
            all_goals try first | exact inI64 (by omega) (by omega) | omega
            exact dk_intro _ rfl rfl (by simp [frz]) k7.out
        · have hje : j = r.pts.length := by omega
          subst hje
          clear hss hptz hin2
          refine awpd_seqH [(1, .ip (cNet n) 0), (34, .sl n.roads.length (cRoads n.roads)), (35, .int .i64 n.roads.length), (36, .int .i64 k), (64, .bool false)] (some (ptsT r.pts D r.pts.length)) (fun K7 k7 => awpd_dk ?_) ?_
          · clear kN kX
            repeat' (first | (with_reducible first | refine awp_region ?_ | exact EqV_w | exact EqE_w | exact EqV_fn | exact EqE_fn | exact EqV_gd | exact EqE_gd | intro _) | (simp [*]))
            exact dk_intro _ rfl rfl (by simp [frz]) k7.out
          exact awpd_seq (awpd_cond (b := false) (by simp) (fun h => by cases h) (fun _ => awpd_sub (env' := [(1, .ip (cNet n) 0), (34, .sl n.roads.length (cRoads n.roads)), (35, .int .i64 n.roads.length), (36, .int .i64 k)]) (fun p hp => by simp only [List.mem_cons, List.not_mem_nil, or_false] at hp ⊢; rcases hp with e | e | e | e <;> simp [e]) (awpd_exit kX.out)))
      · refine awpd_hide [(1, .ip (cNet n) 0), (34, .sl n.roads.length (cRoads n.roads)), (35, .int .i64 n.roads.length), (36, .int .i64 (k + 1 : Nat))] (some (roadsT n A (k + 1))) (fun K4 k4 => awpd_dk ?_) (kN.out (k + 1) (by omega) (by omega))
        have hnr := h.nr
        clear kN kX
        repeat' (first | (with_reducible first | refine awp_region ?_ | refine And.intro ?_ ?_ | exact EqV_w | exact EqE_w | exact EqV_fn | exact EqE_fn | exact EqV_gd | exact EqE_gd | intro _) | (simp [*]))
        all_goals try first | exact inI64 (by omega) (by omega) | omega
        exact dk_intro _ rfl rfl (by simp [frz]) k4.out
    · have hke : k = n.roads.length := by omega
      subst hke
      refine awpd_seqH [(37, .bool false)] (some (roadsT n A n.roads.length)) (fun K4 k4 => awpd_dk ?_) ?_
      · clear kN kX
        repeat' (first | (with_reducible first | refine awp_region ?_ | exact EqV_w | exact EqE_w | exact EqV_fn | exact EqE_fn | exact EqV_gd | exact EqE_gd | intro _) | (simp [*]))
        exact dk_intro _ rfl rfl (by simp [frz]) k4.out
      exact awpd_seq (awpd_cond (b := false) (by simp) (fun h => by cases h) (fun _ => awpd_sub (env' := []) (fun p hp => by cases hp) (awpd_exit kX.out)))
  refine awpd_seqH [(2, .str (roadsT n A n.roads.length)), (3, .int .i64 0)] none (fun K2 k2 => awpd_region (dls_text text_C rfl rfl rfl (by decide) (dls_of ?_))) ?_
  · simp
    exact ⟨trivial, _, by simp [frz], k2.out⟩
  refine awpd_ret ⟨?_, .inr rfl⟩
  simp [RetOk, resL, resA, oneOf, frz, freshA, flat]
end Go.Proofs.YtfpamehamllndaaGreatDoor
namespace Go.Proofs.YtfpamehamllndaaGreatDoor
open Go Go.Fi Go.RowKit
set_option maxRecDepth 20000

/-! ### the reference writes a net -/
theorem joinB_one (a sp : ByteArray) : joinB [a] sp = a := ba_ext (by simp [joinB, Lib.join_one])
theorem joinB_cons (a b sp : ByteArray) (r : List ByteArray) : joinB (a :: b :: r) sp = a ++ sp ++ joinB (b :: r) sp := by
  refine ba_ext ?_
  simp [joinB, Lib.join, List.intercalate]
theorem place_eq (t x : ByteArray) : ((t ++ (⟨#[112, 108, 97, 99, 101, 32]⟩ : ByteArray)) ++ x) ++ nl1 = t ++ lineT [wPlace, x] [] := by
  refine ba_ext ?_
  simp [lineT, wsK, joinB_one, joinB_cons]
theorem road_eq (t x y z : ByteArray) (m : Int) : ((((((((t ++ (⟨#[114, 111, 97, 100, 32]⟩ : ByteArray)) ++ x) ++ sp1) ++ y) ++ sp1) ++ z) ++ sp1) ++ dec m) ++ nl1 = t ++ lineT [wRoad, x, y, z] [m] := by
  refine ba_ext ?_
  simp [lineT, wsK, joinB_one, joinB_cons]
theorem time_eq (t : ByteArray) (a b c : Int) : ((((((t ++ (⟨#[116, 105, 109, 101, 32]⟩ : ByteArray)) ++ dec a) ++ sp1) ++ dec b) ++ sp1) ++ dec c) ++ nl1 = t ++ lineT [wTime] [a, b, c] := by
  refine ba_ext ?_
  simp [lineT, wsK, joinB_one, joinB_cons]
set_option maxHeartbeats 8000000 in
theorem rPrint_c (n : Net) (h : NetIn n) (ok : NetOk n) : RealCall Tryz.prog 12 [aNet n] (.str (printS n)) true := by
  have hp0 : placesT n 0 = ⟨#[]⟩ := rfl
  have hnp := h.np
  have hnr := h.nr
  have hnp2 := ok.np
  have hnr2 := ok.nr
  have kok := keep ok
  have kp : Keep (printS n = roadsT n (placesT n n.places.length) n.roads.length) := keep rfl
  have ls1 : (⟨#[112, 108, 97, 99, 101, 32]⟩ : ByteArray).size = 6 := rfl
  have ls2 : (⟨#[114, 111, 97, 100, 32]⟩ : ByteArray).size = 5 := rfl
  have ls3 : (⟨#[116, 105, 109, 101, 32]⟩ : ByteArray).size = 5 := rfl
  have ls4 : (⟨#[10]⟩ : ByteArray).size = 1 := rfl
  have ls5 : (⟨#[32]⟩ : ByteArray).size = 1 := rfl
  clear ok h
  unfold aNet cNet
  refine realcall_intro Tryz.func12 (by kernel_rfl) rfl (Nat.le_of_ble_eq_true (by kernel_rfl)) ?_
  simp only [Tryz.results12, Tryz.ntmps12]
  repeat' (first | (with_reducible first | refine awp_seq ?_ | refine awp_region ?_ | exact EqV_w | exact EqE_w | exact EqV_fn | exact EqE_fn | exact EqV_gd | exact EqE_gd | intro _) | (simp [*]))
  refine awp_for4 1 (fun (k : Nat) => k ≤ n.places.length) [1] (fun (k : Nat) => [(4, .w false false (.int .i64 k)), (3, .w false false (.str (placesT n k)))]) [0] (fun (k : Nat) => []) (fun (k : Nat) => n.places.length - k) (fun (_u : Unit) => True) [1] (fun (_u : Unit) => [(3, .w false false (.str (placesT n n.places.length)))]) [0] (fun (_u : Unit) => []) (0) (Nat.zero_le _) (le_gen [] (by simp [hp0]) (by simp [hp0])) (fun k hk => ?_) (fun _u hf => ?_)
  · clear hp0 kp
    by_cases hlt : k < n.places.length
    · have ok := show NetOk n from kok
      have hz1 := placesT_size ok k hk
      have hz2 := name_sz (ok.pname k hlt).1
      have hm := Nat.mul_le_mul_right 7008 (show k ≤ 20 by omega)
      have ks := keep ((place_eq (placesT n k) (nth n.places k)).trans (show _ = placesT n (k + 1) from rfl))
      clear kok ok
      generalize placesT n k = T at *
      repeat' (first | (with_reducible first | refine awp_seq ?_ | refine awp_blockR ?_ | refine awp_skip ?_ | refine awp_region ?_ | refine awp_condM ?_ | refine And.intro ?_ ?_ | exact EqV_w | exact EqE_w | exact EqV_fn | exact EqE_fn | exact EqV_gd | exact EqE_gd | intro _) | (simp [*, hlt]))
      all_goals try first | exact inI64 (by omega) (by omega) | (simp only [ByteArray.size_append]; omega) | omega
      all_goals (refine loopK_normal _ _ _ _ _ (k + 1) _ ?_ (by first | omega | (dsimp only; omega) | (simp; omega)) ?_; (· omega); (refine le_gen [] ?_ ?_ <;> first | trivial | (simp [*, (show _ = placesT n (k + 1) from ks)]; done)))
    · have hke : k = n.places.length := by omega
      subst hke
      clear kok
      repeat' (first | (with_reducible first | refine awp_seq ?_ | refine awp_exit ?_ | refine awp_region ?_ | refine awp_condM ?_ | exact EqV_w | exact EqE_w | exact EqV_fn | exact EqE_fn | exact EqV_gd | exact EqE_gd | intro _) | (simp [*]))
      all_goals (refine finW_intro () ?_ ?_; (· trivial); (refine le_gen [] ?_ ?_ <;> first | trivial | (simp [*]; done)))
  have hAz : (placesT n n.places.length).size ≤ 140160 := by
    have h1 := placesT_size (show NetOk n from kok) _ (Nat.le_refl _)
    have h2 := Nat.mul_le_mul_right 7008 hnp2
    omega
  clear hp0
  generalize hA : placesT n n.places.length = A at *
  have hr0 : roadsT n A 0 = A := rfl
  repeat' (first | (with_reducible first | refine awp_seq ?_ | refine awp_region ?_ | exact EqV_w | exact EqE_w | exact EqV_fn | exact EqE_fn | exact EqV_gd | exact EqE_gd | intro _) | (simp [*]))
  refine awp_for4 1 (fun (k : Nat) => k ≤ n.roads.length) [1] (fun (k : Nat) => [(5, .w false false (.int .i64 k)), (3, .w false false (.str (roadsT n A k)))]) [0] (fun (k : Nat) => []) (fun (k : Nat) => n.roads.length - k) (fun (_u : Unit) => True) [] (fun (_u : Unit) => [(3, .w false false (.str (roadsT n A n.roads.length)))]) [0] (fun (_u : Unit) => []) (0) (Nat.zero_le _) (le_gen [] (by simp [hr0]) (by simp [hr0])) (fun k hk => ?_) (fun _u hf => ?_)
  · clear hr0 kp
    by_cases hlt : k < n.roads.length
    · have ok := show NetOk n from kok
      have rk := ok.road k hlt
      have hz1 := roadsT_size ok A k (by omega)
      have hz3 := name_sz (ok.rname k hlt).1
      have hmul := Nat.mul_le_mul_right 63072 (show k ≤ 60 by omega)
      have hpl := rk.len
      have hptz := ptsT_size rk.pts (roadsT n A k ++ roadL n (nth n.roads k))
      obtain ⟨f, hf⟩ := Int.eq_ofNat_of_zero_le rk.frm.1
      obtain ⟨g, hg⟩ := Int.eq_ofNat_of_zero_le rk.to.1
      have hf2 : f < n.places.length := by have := rk.frm.2; omega
      have hg2 : g < n.places.length := by have := rk.to.2; omega
      have hz4 := name_sz (ok.pname f hf2).1
      have hz5 := name_sz (ok.pname g hg2).1
      have hin := roadL_in ok hlt
      have kpt := keep rk.pts
      have hmet := rk.met
      have hrs : ptsT (nth n.roads k).pts (roadsT n A k ++ roadL n (nth n.roads k)) (nth n.roads k).pts.length = roadsT n A (k + 1) := rfl
      have kz := keep hrs
      clear hrs rk ok kok hA
      generalize hrd : nth n.roads k = r at *
      have hL : roadL n r = lineT [wRoad, r.name, nth n.places f, nth n.places g] [r.metres] := by unfold roadL; rw [hf, hg]; rfl
      have hLz : (roadL n r).size ≤ 7008 := lineT_size hin
      have kre := keep (show ((((((((roadsT n A k ++ (⟨#[114, 111, 97, 100, 32]⟩ : ByteArray)) ++ r.name) ++ sp1) ++ nth n.places f) ++ sp1) ++ nth n.places g) ++ sp1) ++ dec r.metres) ++ nl1 = roadsT n A k ++ roadL n r from by rw [hL]; exact road_eq _ _ _ _ _)
      clear hL hin
      have hbz : (roadsT n A k ++ roadL n r).size ≤ 5000000 := by rw [ByteArray.size_append]; omega
      have cd := decimal_c r.metres (by omega) (by omega)
      have hdz := dec_size (n := r.metres) (by omega) (by omega)
      have kzr := keep kz
      clear kz
      generalize hQ : roadsT n A k = Q at *
      generalize hM : dec r.metres = M at *
      have hpd : (nth n.places f).size + (nth n.places g).size + r.name.size + M.size ≤ 100 := by omega
      repeat' (first | (with_reducible first | refine awp_seq ?_ | refine awp_blockS ?_ | refine awp_skip ?_ | refine awp_region ?_ | refine awp_regionD (id := 10) 27 mixed (by decide +kernel) ?_ | refine awp_condM ?_ | refine And.intro ?_ ?_ | exact EqV_w | exact EqE_w | exact EqV_fn | exact EqE_fn | exact EqV_gd | exact EqE_gd | refine cw (cd) ?_ | intro _) | (simp [*, hlt, hrd, cRoad, hf, hg, hf2, hg2]) | (refine cw_eq (cd) ?_ ?_; (· (simp [*]; done))))
      all_goals try first | exact inI64 (by omega) (by omega) | (simp only [ByteArray.size_append]; omega) | omega
      have hD0 : ptsT r.pts (Q ++ roadL n r) 0 = Q ++ roadL n r := rfl
      have kre2 : ((((((((Q ++ (⟨#[114, 111, 97, 100, 32]⟩ : ByteArray)) ++ r.name) ++ sp1) ++ nth n.places f) ++ sp1) ++ nth n.places g) ++ sp1) ++ M) ++ nl1 = Q ++ roadL n r := kre
      rw [kre2]
      clear kre2 kre hpd hM cd hdz hz1 hz3 hz4 hz5 hLz hmet
      clear hf hg hrd hQ hAz hmul
      generalize Q ++ roadL n r = D at *
      refine awp_for4 2 (fun (j : Nat) => j ≤ r.pts.length) [1, 5, 6] (fun (j : Nat) => [(7, .w false false (.int .i64 j)), (3, .w false false (.str (ptsT r.pts D j)))]) [0, 1] (fun (j : Nat) => []) (fun (j : Nat) => r.pts.length - j) (fun (_u : Unit) => True) [1, 5] (fun (_u : Unit) => [(3, .w false false (.str (ptsT r.pts D r.pts.length)))]) [0] (fun (_u : Unit) => []) (0) (Nat.zero_le _) (le_gen [] (by simp [hD0]) (by simp [hD0])) (fun j hk => ?_) (fun _u hf => ?_)
      · clear hD0 kzr
        have hj := hk
        by_cases hlj : j < r.pts.length
        · have hpz := hptz j hj
          have hmul2 := Nat.mul_le_mul_right 7008 (show j ≤ 8 by omega)
          have po := show PtsOk r.pts from kpt
          have hat := po.at_ j hlj
          have hva := po.val j hlj
          have kt := keep ((time_eq (ptsT r.pts D j) (nth r.pts j).at_ (nth r.pts j).lo (nth r.pts j).hi).trans (show _ = ptsT r.pts D (j + 1) from rfl))
          clear hptz kpt po
          generalize hpt : nth r.pts j = q at *
          have c1 := decimal_c q.at_ (by omega) (by omega)
          have c2 := decimal_c q.lo (by omega) (by omega)
          have c3 := decimal_c q.hi (by omega) (by omega)
          have d1 := dec_size (n := q.at_) (by omega) (by omega)
          have d2 := dec_size (n := q.lo) (by omega) (by omega)
          have d3 := dec_size (n := q.hi) (by omega) (by omega)
          generalize hM1 : dec q.at_ = M1 at *
          generalize hM2 : dec q.lo = M2 at *
          generalize hM3 : dec q.hi = M3 at *
          clear hM1 hM2 hM3
          generalize ptsT r.pts D j = W at *
          repeat' (first | (with_reducible first | refine awp_seq ?_ | refine awp_blockS ?_ | refine awp_skip ?_ | refine awp_region ?_ | refine awp_regionD (id := 15) 19 mixed (by decide +kernel) ?_ | refine awp_condM ?_ | refine And.intro ?_ ?_ | exact EqV_w | exact EqE_w | exact EqV_fn | exact EqE_fn | exact EqV_gd | exact EqE_gd | refine cw (c1) ?_ | refine cw (c2) ?_ | refine cw (c3) ?_ | intro _) | (simp [*, hlj, hpt]) | (refine cw_eq (c1) ?_ ?_; (· (simp [*]; done))) | (refine cw_eq (c2) ?_ ?_; (· (simp [*]; done))) | (refine cw_eq (c3) ?_ ?_; (· (simp [*]; done))))
          all_goals try first | exact inI64 (by omega) (by omega) | (simp only [ByteArray.size_append]; omega) | omega
          all_goals (refine loopK_normal _ _ _ _ _ (j + 1) _ ?_ (by first | omega | (dsimp only; omega) | (simp; omega)) ?_; (· omega); (refine le_gen [] ?_ ?_ <;> first | trivial | (simp [*, (show _ = ptsT r.pts D (j + 1) from kt)]; done)))
        · have hje : j = r.pts.length := by omega
          subst hje
          clear hptz kpt
          repeat' (first | (with_reducible first | refine awp_seq ?_ | refine awp_exit ?_ | refine awp_region ?_ | refine awp_condM ?_ | exact EqV_w | exact EqE_w | exact EqV_fn | exact EqE_fn | exact EqV_gd | exact EqE_gd | intro _) | (simp [*]))
          all_goals (refine finW_intro () ?_ ?_; (· trivial); (refine le_gen [] ?_ ?_ <;> first | trivial | (simp [*]; done)))
      · clear hD0 hptz kpt
        repeat' (first | (with_reducible first | refine awp_region ?_ | refine And.intro ?_ ?_ | exact EqV_w | exact EqE_w | exact EqV_fn | exact EqE_fn | exact EqV_gd | exact EqE_gd | intro _) | (simp [*]))
        all_goals try first | exact inI64 (by omega) (by omega) | omega
        all_goals (refine loopK_normal _ _ _ _ _ (k + 1) _ ?_ (by first | omega | (dsimp only; omega) | (simp; omega)) ?_; (· omega); (refine le_gen [] ?_ ?_ <;> first | trivial | (simp [*, (show ptsT r.pts D r.pts.length = roadsT n A (k + 1) from kzr)]; done)))
    · have hke : k = n.roads.length := by omega
      subst hke
      clear kok
      repeat' (first | (with_reducible first | refine awp_seq ?_ | refine awp_exit ?_ | refine awp_region ?_ | refine awp_condM ?_ | exact EqV_w | exact EqE_w | exact EqV_fn | exact EqE_fn | exact EqV_gd | exact EqE_gd | intro _) | (simp [*]))
      all_goals (refine finW_intro () ?_ ?_; (· trivial); (refine le_gen [] ?_ ?_ <;> first | trivial | (simp [*]; done)))
  · clear hr0 kok
    repeat' (first | (with_reducible first | refine awp_seq ?_ | refine awp_ret ?_ | refine awp_region ?_ | exact EqV_w | exact EqE_w | exact EqV_fn | exact EqE_fn | exact EqV_gd | exact EqE_gd | intro _) | (simp [*]))
    all_goals first | exact (show _ = _ from kp).symm | (rw [show printS n = _ from kp]; trivial)
end Go.Proofs.YtfpamehamllndaaGreatDoor

