/- Contracts of functions for this claim: lemmas alone. -/
import Derived.Test.YtmkahgnfoefnjaaP46
set_option linter.unusedSimpArgs false
set_option linter.unusedVariables false
namespace Go.Proofs.Ytmkahgnfoefnjaa
open Go Go.Fi

/-- a list without one -/
def wr (l : List Road) (r : Nat) : Nat → List Road
  | 0 => []
  | k + 1 => if k = r then wr l r k else wr l r k ++ [nth l k]
@[simp] theorem wr_zero (l : List Road) (r : Nat) : wr l r 0 = [] := rfl
def outN (n : Net) (r : Nat) : Net := ⟨n.places, wr n.roads r n.roads.length⟩
theorem wr_eq (l : List Road) (r : Nat) : ∀ k, k ≤ l.length → wr l r k = if k ≤ r then l.take k else l.take r ++ (l.drop (r + 1)).take (k - (r + 1))
  | 0, _ => by simp [wr]
  | k + 1, hk => by
    have ih := wr_eq l r k (by omega)
    simp only [wr]
    by_cases h1 : k = r
    · subst h1
      rw [if_pos rfl, ih, if_pos (Nat.le_refl _), if_neg (by omega), Nat.sub_self]; simp
    · rw [if_neg h1, ih]
      by_cases h2 : k + 1 ≤ r
      · rw [if_pos h2, if_pos (by omega), take_succ_nth l k (by omega)]
      · rw [if_neg h2, if_neg (by omega)]
        have e : k + 1 - (r + 1) = (k - (r + 1)) + 1 := by omega
        have hd : k - (r + 1) < (l.drop (r + 1)).length := by rw [List.length_drop]; omega
        rw [e, take_succ_nth _ _ hd, List.append_assoc]
        congr 3
        unfold nth
        rw [List.getD_eq_getElem?_getD, List.getD_eq_getElem?_getD, List.getElem?_drop]
        congr 2; omega
theorem wr_all (l : List Road) (r : Nat) (h : r < l.length) : wr l r l.length = l.take r ++ l.drop (r + 1) := by
  rw [wr_eq l r _ (Nat.le_refl _), if_neg (by omega), List.take_of_length_le (l := l.drop (r + 1)) (by rw [List.length_drop]; omega)]
theorem wr_len (l : List Road) (r : Nat) : ∀ k, (wr l r k).length ≤ k ∧ (r < k → (wr l r k).length + 1 = k) ∧ (k ≤ r → (wr l r k).length = k)
  | 0 => ⟨Nat.le_refl _, fun h => absurd h (Nat.not_lt_zero _), fun _ => rfl⟩
  | k + 1 => by
    obtain ⟨a, b, c⟩ := wr_len l r k
    simp only [wr]
    by_cases h : k = r
    · subst h; rw [if_pos rfl]
      have := c (Nat.le_refl _)
      exact ⟨by omega, fun _ => by omega, fun h => by omega⟩
    · rw [if_neg h, List.length_append, List.length_singleton]
      exact ⟨by omega, fun h => by have := b (by omega); omega, fun h => by have := c (by omega); omega⟩
def rowsV (l : List Road) : List AV := (cRoads l).map (.w true false)
@[simp] theorem rowsV_nil : rowsV [] = [] := rfl
theorem rowsV_len (l : List Road) : (rowsV l).length = l.length * 5 := by simp [rowsV]
theorem rowsV_snoc (l : List Road) (r : Road) : rowsV (l ++ [r]) = rowsV l ++ [.w true false (.str r.name), .w true false (.int .i64 r.frm), .w true false (.int .i64 r.to), .w true false (.int .i64 r.metres), .w true false (.sl r.pts.length (cPts r.pts))] := by
  unfold rowsV cRoads
  rw [List.flatMap_append, List.map_append]
  simp [cRoad]
@[simp] theorem rowsV_lt (l : List Road) (n : Nat) : AV.lt.ltL n (rowsV l) = true := ltL_map n true false _
@[simp] theorem rowsV_self {D : List Nat} {h : Heap} {n n' : Nat} (l : List Road) : cellsLe D h n n' (rowsV l) (rowsV l) = True := eq_true (cellsLe_w true false _)
def wE (n : Net) (r : Int) : Int := firstS [(netS n).2.2, errUnless (winB r 0 (n.roads.length - 1)) 6]
end Go.Proofs.Ytmkahgnfoefnjaa
namespace Go.Proofs.Ytmkahgnfoefnjaa
open Go Go.Fi

theorem cRoads_app (a b : List Road) : cRoads a ++ cRoads b = cRoads (a ++ b) := by simp [cRoads]
theorem cRoads_drop5 (l : List Road) : ∀ k, (cRoads l).drop (k * 5) = cRoads (l.drop k) := by
  intro k
  by_cases h : k ≤ l.length
  · have e : cRoads l = cRoads (l.take k) ++ cRoads (l.drop k) := by rw [cRoads_app, List.take_append_drop]
    rw [e, List.drop_left' (by simp [Nat.min_eq_left h])]
  · rw [List.drop_eq_nil_of_le (by simp; omega), List.drop_eq_nil_of_le (by omega)]; rfl
theorem fr_weak {f : Nat} {args : List PV} {res : PV} (h : RealCall Try.prog f args res true) : RealCall Try.prog f args res false :=
  ⟨h.1, fun G w vs hl hr => (h.2 G w vs hl hr).mono fun e w' ⟨v, h1, h2, h3⟩ => ⟨v, h1, h2, h3.imp fun b hb => ⟨hb.1, fun hf => by cases hf⟩⟩⟩
set_option maxHeartbeats 4000000 in
theorem rWithout_c (n : Net) (h : NetIn n) (r : Nat) (hr : r < n.roads.length) : RealCall Try.prog 33 [aNet n, .int .i64 r] (aNet (outN n r)) false := by
  have cc := fr_weak (rCopy_c n h)
  have hnr := h.nr
  have e := wr_all n.roads r hr
  have hT : (cRoads n.roads).take (r * 5) = cRoads (n.roads.take r) := cRoads_take n.roads r (by omega)
  have hD : ((cRoads n.roads).drop ((r + 1) * 5)).take ((n.roads.length - (r + 1)) * 5) = cRoads (n.roads.drop (r + 1)) := by
    rw [cRoads_drop5, List.take_of_length_le (by simp)]
  have hA : cRoads (n.roads.take r) ++ cRoads (n.roads.drop (r + 1)) = cRoads (wr n.roads r n.roads.length) := by rw [cRoads_app, e]
  have hL : r + (n.roads.length - (r + 1)) = (wr n.roads r n.roads.length).length := by rw [e]; simp; omega
  have h1 : ((r : Int) + 1).toNat = r + 1 := by omega
  unfold outN
  clear h e
  generalize wr n.roads r n.roads.length = W at *
  unfold aNet cNet at *
  refine realcall_intro Try.func33 (by kernel_rfl) rfl (Nat.le_of_ble_eq_true (by kernel_rfl)) ?_
  simp only [Try.results33, Try.ntmps33]
  repeat' (first | (with_reducible first | refine awp_seq ?_ | refine awp_blockS ?_ | refine awp_blockC ?_ | refine awp_blockR ?_ | refine awp_skip ?_ | refine awp_ret ?_ | refine awp_exit ?_ | refine awp_region ?_ | refine awp_regionD (id := 2) 10 mixed (by decide +kernel) ?_ | refine awp_condM ?_ | refine And.intro ?_ ?_ | refine gE_splitN ?_ ?_ | refine gE_split ?_ ?_ | refine gQ_splitN ?_ ?_ | refine gQ_split ?_ ?_ | refine gM_splitN ?_ ?_ | refine gM_split ?_ ?_ | refine condM_splitDN ?_ ?_ | refine condM_splitD ?_ ?_ | refine condM_splitN ?_ ?_ | refine condM_split ?_ ?_ | refine condM_any ?_ ?_ | refine cw (cc) ?_ | intro _) | (simp [*, hr, hT, hD, hA, hL, h1]))
  all_goals first | exact inI64 (by omega) (by omega) | omega | skip
theorem scan_all {f : Nat → Option Tri} {n : Nat} (h : ∀ k, k < n → f k = none) : scan f n 0 = none := by
  cases hs : scan f n 0 with
  | none => rfl
  | some r =>
    obtain ⟨j, _, h2, h3⟩ := scan_some hs
    rw [h j (by omega)] at h3; cases h3
theorem net_inv {n : Net} (h : (netS n).2.2 = 0) : netE n = 0 ∧ (∀ k, k < n.places.length → fPlace n k = none) ∧ n.roads.length ≤ 60 ∧ ∀ k, k < n.roads.length → fRoad n k = none := by
  unfold netS at h
  by_cases he : netE n = 0
  · rw [if_pos he] at h
    cases hs : scan (fPlace n) n.places.length 0 with
    | some r =>
      rw [hs] at h
      obtain ⟨j, _, _, hj⟩ := scan_some hs
      exact absurd h (fPlace_ne hj)
    | none =>
      rw [hs] at h
      have h : (netB n).2.2 = 0 := h
      unfold netB at h
      by_cases hl : 60 < n.roads.length
      · rw [if_pos hl] at h; exact absurd h (by decide)
      · rw [if_neg hl] at h
        cases hr : scan (fRoad n) n.roads.length 0 with
        | some r =>
          rw [hr] at h
          obtain ⟨j, _, _, hj⟩ := scan_some hr
          exact absurd h (fRoad_ne hj)
        | none => exact ⟨he, scan_none hs, by omega, scan_none hr⟩
  · rw [if_neg he] at h; exact absurd h he
theorem net_zero {n : Net} (h1 : netE n = 0) (h2 : ∀ k, k < n.places.length → fPlace n k = none) (h3 : n.roads.length ≤ 60) (h4 : ∀ k, k < n.roads.length → fRoad n k = none) : (netS n).2.2 = 0 := by
  unfold netS
  rw [if_pos h1, scan_all h2]
  show (netB n).2.2 = 0
  unfold netB
  rw [if_neg (by omega), scan_all h4]
  rfl
/-- where a road of the lesser list stood -/
theorem wr_nth (l : List Road) (r : Nat) : ∀ k, k ≤ l.length → ∀ j, j < (wr l r k).length → ∃ i, j ≤ i ∧ i < k ∧ nth (wr l r k) j = nth l i ∧ ∀ x, x ∈ (wr l r k).take j → x ∈ l.take i
  | 0, _, j, hj => absurd hj (Nat.not_lt_zero _)
  | k + 1, hk, j, hj => by
    simp only [wr] at hj ⊢
    by_cases h : k = r
    · rw [if_pos h] at hj ⊢
      obtain ⟨i, a, b, c, d⟩ := wr_nth l r k (by omega) j hj
      exact ⟨i, a, by omega, c, d⟩
    · rw [if_neg h] at hj ⊢
      rw [List.length_append, List.length_singleton] at hj
      by_cases hlt : j < (wr l r k).length
      · obtain ⟨i, a, b, c, d⟩ := wr_nth l r k (by omega) j hlt
        refine ⟨i, a, by omega, ?_, ?_⟩
        · rw [← c]
          simp [nth, List.getD_eq_getElem?_getD, List.getElem?_append_left hlt]
        · rw [List.take_append_of_le_length (by omega)]; exact d
      · have e : j = (wr l r k).length := by omega
        subst e
        refine ⟨k, (wr_len l r k).1, by omega, ?_, fun x hx => ?_⟩
        · unfold nth
          rw [List.getD_eq_getElem?_getD, List.getElem?_append_right (Nat.le_refl _), Nat.sub_self]; simp [List.getD_eq_getElem?_getD]
        · rw [List.take_append_of_le_length (Nat.le_refl _), List.take_length] at hx
          rw [wr_eq l r k (by omega)] at hx
          split at hx
          · exact hx
          · rcases List.mem_append.1 hx with h1 | h1
            · exact (List.take_subset_take_left l (by omega)) h1
            · have : l.take k = l.take (r + 1) ++ (l.drop (r + 1)).take (k - (r + 1)) := by
                rw [← List.take_add]; congr 1; omega
              rw [this]; exact List.mem_append_right _ h1
theorem out_net {n : Net} (h : (netS n).2.2 = 0) (r : Nat) : (netS (outN n r)).2.2 = 0 := by
  obtain ⟨h1, h2, h3, h4⟩ := net_inv h
  have hl := (wr_len n.roads r n.roads.length).1
  refine net_zero h1 h2 (by show (wr n.roads r n.roads.length).length ≤ 60; omega) (fun j hj => ?_)
  obtain ⟨i, a, b, c, d⟩ := wr_nth n.roads r n.roads.length (Nat.le_refl _) j hj
  have hi := h4 i b
  unfold fRoad at hi ⊢
  show (if errR (outN n r) j = 0 then orE (scan (fPt (nth (wr n.roads r n.roads.length) j).pts j) (nth (wr n.roads r n.roads.length) j).pts.length 0) (scan (fOrd (nth (wr n.roads r n.roads.length) j).pts j) (nth (wr n.roads r n.roads.length) j).pts.length 0) else some ((j : Int), 0, errR (outN n r) j)) = none
  have he : errR n i = 0 := by
    by_cases he : errR n i = 0
    · exact he
    · rw [if_neg he] at hi; cases hi
  rw [if_pos he] at hi
  have hdup : ((wr n.roads r n.roads.length).take j).any (fun x => decide (x.name = (nth n.roads i).name)) = false := by
    have h5 := firstS_nth he 1 (show (1 : Nat) < 7 by omega)
    have h5 : errUnless (!((n.roads.take i).any fun x => decide (x.name = (nth n.roads i).name))) 5 = 0 := h5
    have h6 := unless_zero (by decide) h5
    rw [Bool.not_eq_true'] at h6
    rw [List.any_eq_false] at h6 ⊢
    exact fun x hx => h6 x (d x hx)
  have he2 : errR (outN n r) j = 0 := by
    have : errR (outN n r) j = firstS [errUnless (nameB (nth n.roads i).name) 4, errUnless (!(((wr n.roads r n.roads.length).take j).any fun x => decide (x.name = (nth n.roads i).name))) 5,
      errUnless (winB (nth n.roads i).frm 0 (n.places.length - 1) && winB (nth n.roads i).to 0 (n.places.length - 1)) 6, errUnless (!decide ((nth n.roads i).frm = (nth n.roads i).to)) 26, errUnless (winB (nth n.roads i).metres 0 100000) 2,
      errUnless (decide (0 < (nth n.roads i).pts.length)) 10, errUnless (decide (((nth n.roads i).pts.length : Int) ≤ 8)) 8] := by rw [← c]; rfl
    rw [this, hdup]
    refine Eq.trans ?_ he
    unfold errR
    have h5 := firstS_nth he 1 (show (1 : Nat) < 7 by omega)
    have h5 : errUnless (!((n.roads.take i).any fun x => decide (x.name = (nth n.roads i).name))) 5 = 0 := h5
    rw [h5]; rfl
  rw [if_pos he2, c]
  have hs1 : scan (fPt (nth n.roads i).pts j) (nth n.roads i).pts.length 0 = none := by
    refine scan_all (fun k hk => ?_)
    have h7 : scan (fPt (nth n.roads i).pts i) (nth n.roads i).pts.length 0 = none := by
      cases h7 : scan (fPt (nth n.roads i).pts i) (nth n.roads i).pts.length 0 with
      | none => rfl
      | some q => rw [h7] at hi; cases hi
    have := scan_none h7 k hk
    unfold fPt at this ⊢
    split at this
    · rename_i h0; rw [if_pos h0]
    · cases this
  have hs2 : scan (fOrd (nth n.roads i).pts j) (nth n.roads i).pts.length 0 = none := by
    refine scan_all (fun k hk => ?_)
    have h7 : scan (fOrd (nth n.roads i).pts i) (nth n.roads i).pts.length 0 = none := by
      cases h6 : scan (fPt (nth n.roads i).pts i) (nth n.roads i).pts.length 0 with
      | none => rw [h6] at hi; exact hi
      | some q => rw [h6] at hi; cases hi
    have := scan_none h7 k hk
    unfold fOrd at this ⊢
    split at this
    · rename_i h0; rw [if_pos h0]
    · cases this
  rw [hs1, hs2]; rfl
theorem out_in {n : Net} (h : NetIn n) (r : Nat) : NetIn (outN n r) := by
  have hl := (wr_len n.roads r n.roads.length).1
  have hn := h.nr
  refine ⟨h.np, by show (wr n.roads r n.roads.length).length < 1000; omega, h.ps, fun k hk => ?_, fun k hk => ?_⟩
  · obtain ⟨i, a, b, c, d⟩ := wr_nth n.roads r n.roads.length (Nat.le_refl _) k hk
    show (nth (wr n.roads r n.roads.length) k).name.size < 1000000
    rw [c]; exact h.rs i b
  · obtain ⟨i, a, b, c, d⟩ := wr_nth n.roads r n.roads.length (Nat.le_refl _) k hk
    show (nth (wr n.roads r n.roads.length) k).pts.length < 1000
    rw [c]; exact h.rp i b
/-- what is reached without a road is reached with it -/
theorem reach_out {n : Net} {r : Nat} {f : Road → Int → Int} {a i : Nat} {st v : Int} (h : Reach (outN n r) f a st i v) : Reach n f a st i v := by
  induction h with
  | here => exact .here
  | road k hk _ ih =>
    obtain ⟨j, _, b, c, _⟩ := wr_nth n.roads r n.roads.length (Nat.le_refl _) k hk
    have c : nth (outN n r).roads k = nth n.roads j := c
    rw [c] at ih ⊢
    exact .road j b ih
theorem out_later {n : Net} {r : Nat} (hn : NetOk n) (ho : NetOk (outN n r)) {a i : Nat} (ha : a < n.places.length) (hi : i < n.places.length) {st : Int} (h0 : 0 ≤ st) (h1 : st ≤ 700000) (late : Bool) (hs : nth (growS (fTime late) (outN n r) a st).l i ≠ -1) :
    0 ≤ nth (growS (fTime late) n a st).l i ∧ nth (growS (fTime late) n a st).l i ≤ nth (growS (fTime late) (outN n r) a st).l i := by
  have f1 := growS_fixed ho (along_time ho late) (f := fTime late) (a := a) ha h0 h1
  have f2 := growS_fixed hn (along_time hn late) (f := fTime late) (a := a) ha h0 h1
  rcases f1.reach i hi with e | e
  · exact absurd e hs
  · exact fixed_least hn (time_mono hn late) f2 (Int.le_refl _) (reach_out e)
end Go.Proofs.Ytmkahgnfoefnjaa
