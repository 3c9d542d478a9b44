/- Contracts of functions for this claim: lemmas alone. -/
import Derived.Test.YtmedbghkldmlhaaP38
set_option linter.unusedSimpArgs false
set_option linter.unusedVariables false
namespace Go.Proofs.Ytmedbghkldmlhaa
open Go Go.Fi

/-- whether something is so of one from a number on -/
def anyD {α : Type} (p : α → Bool) (l : List α) (k : Nat) : Bool := (l.drop k).any p
theorem anyD_step {α : Type} [Inhabited α] (p : α → Bool) (l : List α) (k : Nat) (h : k < l.length) : anyD p l k = (p (nth l k) || anyD p l (k + 1)) := by
  unfold anyD
  rw [List.drop_eq_getElem_cons h, List.any_cons]
  congr 2
  simp [nth, List.getD_eq_getElem?_getD, List.getElem?_eq_getElem h]
theorem anyD_end {α : Type} (p : α → Bool) (l : List α) : anyD p l l.length = false := by unfold anyD; rw [List.drop_length]; rfl
theorem anyD_no {α : Type} [Inhabited α] {p : α → Bool} {l : List α} (h : anyD p l 0 = false) : ∀ k, k < l.length → p (nth l k) = false := by
  intro k hk
  have h : l.any p = false := h
  rw [List.any_eq_false] at h
  have := h l[k] (List.getElem_mem hk)
  have e : nth l k = l[k] := by simp [nth, List.getD_eq_getElem?_getD, List.getElem?_eq_getElem hk]
  rw [e]
  cases hp : p l[k] with
  | false => rfl
  | true => exact absurd hp this
theorem anyD_all {α : Type} [Inhabited α] {p : α → Bool} {l : List α} (h : ∀ k, k < l.length → p (nth l k) = false) : ∀ m k, l.length - k = m → k ≤ l.length → anyD p l k = false
  | 0, k, hm, hk => by have : k = l.length := by omega
                       subst this; exact anyD_end p l
  | m + 1, k, hm, hk => by
    rw [anyD_step p l k (by omega), h k (by omega), Bool.false_or]
    exact anyD_all h m (k + 1) (by omega) (by omega)
def badN (t : Int) : Bool := !winB t (-1) 1000000000000000
theorem indexFuncI_c (l : List Int) (g : Nat) (caps : List PV) (p : Int → Bool) (hl : l.length < 1000) (hp : ∀ k, k < l.length → RealCall Try.prog g (.int .i64 (nth l k) :: caps) (.bool (p (nth l k))) true) :
    RealCall Try.prog 132 [.sl l.length (ints l), .fn g caps] (.int .i64 (idxS p l)) true := by
  refine realcall_intro Try.func132 (by kernel_rfl) rfl (Nat.le_of_ble_eq_true (by kernel_rfl)) ?_
  simp only [Try.results132, Try.ntmps132]
  repeat' (first | (with_reducible first | refine awp_seq ?_ | refine awp_blockS ?_ | refine awp_blockC ?_ | refine awp_blockR ?_ | refine awp_skip ?_ | refine awp_ret ?_ | refine awp_exit ?_ | refine awp_region ?_ | refine awp_condM ?_ | refine And.intro ?_ ?_ | refine gM_splitN ?_ ?_ | refine gM_split ?_ ?_ | refine condM_splitDN ?_ ?_ | refine condM_splitD ?_ ?_ | refine condM_splitN ?_ ?_ | refine condM_split ?_ ?_ | refine condM_any ?_ ?_ | intro _) | (simp [*]))
  refine awp_for2 (fun k : Nat => k ≤ l.length ∧ idxFrom p l (l.length - k) k = idxS p l) [0, 1, 6, 7] (fun k => [(8, .w false false (.int .i64 k))]) (fun _ => []) (fun k => l.length - k)
    (fun _ : Unit => idxS p l = -1) [] (fun _ => []) (fun _ => []) 0 ⟨Nat.zero_le _, rfl⟩ (by simp) (by simp) (fun k hk => ?_) (fun _ hf => ?_)
  · obtain ⟨hk, hf⟩ := hk
    have hc := hp k
    clear hp
    repeat' (first | (with_reducible first | refine awp_seq ?_ | refine awp_blockS ?_ | refine awp_blockC ?_ | refine awp_blockR ?_ | refine awp_skip ?_ | refine awp_ret ?_ | refine awp_exit ?_ | refine awp_region ?_ | refine awp_condM ?_ | refine And.intro ?_ ?_ | refine gM_splitN ?_ ?_ | refine gM_split ?_ ?_ | refine condM_splitDN ?_ ?_ | refine condM_splitD ?_ ?_ | refine condM_splitN ?_ ?_ | refine condM_split ?_ ?_ | refine condM_any ?_ ?_ | refine cw (hc (by omega)) ?_ | intro _) | (simp [*]))
    all_goals first
      | exact inI64 (by omega) (by omega)
      | omega
      | (rename_i h0; rw [← hf, idxFrom_hit _ l k (by omega) (by simpa using h0)]; done)
      | (rename_i h0; rw [← hf, idxFrom_hit _ l k (by omega) (by simpa using h0)]; simp; done)
      | (rename_i h0; (refine loopK_normal _ _ _ _ _ (k + 1) _ ?_ (by first | omega | (dsimp only; omega) | (simp; omega)) ?_; (· refine ⟨by omega, ?_⟩; rw [← hf, idxFrom_miss _ l k (by omega) (by simpa using h0)]); (refine le_of ?_ ?_ <;> first | trivial | (simp [*]; done))))
      | (refine finW_intro () ?_ ?_; (· rw [← hf, idxFrom_end _ l k (by omega)]); (refine le_of ?_ ?_ <;> first | trivial | (simp [*]; done)))
      | skip
  · repeat' (first | (with_reducible first | refine awp_seq ?_ | refine awp_blockS ?_ | refine awp_blockC ?_ | refine awp_blockR ?_ | refine awp_skip ?_ | refine awp_ret ?_ | refine awp_exit ?_ | refine awp_region ?_ | refine awp_condM ?_ | refine And.intro ?_ ?_ | refine gM_splitN ?_ ?_ | refine gM_split ?_ ?_ | refine condM_splitDN ?_ ?_ | refine condM_splitD ?_ ?_ | refine condM_splitN ?_ ?_ | refine condM_split ?_ ?_ | refine condM_any ?_ ?_ | intro _) | (simp [*]))
theorem containsFuncI_c (l : List Int) (g : Nat) (caps : List PV) (p : Int → Bool) (hl : l.length < 1000) (hp : ∀ k, k < l.length → RealCall Try.prog g (.int .i64 (nth l k) :: caps) (.bool (p (nth l k))) true) :
    RealCall Try.prog 129 [.sl l.length (ints l), .fn g caps] (.bool (anyD p l 0)) true := by
  have hc := indexFuncI_c l g caps p hl hp
  have e : anyD p l 0 = decide (0 ≤ idxS p l) := by rw [idxS_any]; rfl
  rw [e]
  clear e
  refine realcall_intro Try.func129 (by kernel_rfl) rfl (Nat.le_of_ble_eq_true (by kernel_rfl)) ?_
  simp only [Try.results129, Try.ntmps129]
  repeat' (first | (with_reducible first | refine awp_seq ?_ | refine awp_blockS ?_ | refine awp_blockC ?_ | refine awp_blockR ?_ | refine awp_skip ?_ | refine awp_ret ?_ | refine awp_exit ?_ | refine awp_region ?_ | refine awp_condM ?_ | refine And.intro ?_ ?_ | refine gM_splitN ?_ ?_ | refine gM_split ?_ ?_ | refine condM_splitDN ?_ ?_ | refine condM_splitD ?_ ?_ | refine condM_splitN ?_ ?_ | refine condM_split ?_ ?_ | refine condM_any ?_ ?_ | refine cw (hc) ?_ | intro _) | (simp [*]))
theorem badN_c (t : Int) : RealCall Try.prog 130 [.int .i64 t] (.bool (badN t)) true := by
  unfold badN
  refine realcall_intro Try.func130 (by kernel_rfl) rfl (Nat.le_of_ble_eq_true (by kernel_rfl)) ?_
  simp only [Try.results130, Try.ntmps130]
  repeat' (first | (with_reducible first | refine awp_seq ?_ | refine awp_blockS ?_ | refine awp_blockC ?_ | refine awp_blockR ?_ | refine awp_skip ?_ | refine awp_ret ?_ | refine awp_exit ?_ | refine awp_region ?_ | refine awp_condM ?_ | refine And.intro ?_ ?_ | refine gM_splitN ?_ ?_ | refine gM_split ?_ ?_ | refine condM_splitDN ?_ ?_ | refine condM_splitD ?_ ?_ | refine condM_splitN ?_ ?_ | refine condM_split ?_ ?_ | refine condM_any ?_ ?_ | refine cw (within_c _ _ _) ?_ | intro _) | (simp [*]))
def cLs (ls : List (List Int)) : List PV := ls.map fun l => .sl l.length (ints l)
@[simp] theorem cLs_len (l : List (List Int)) : (cLs l).length = l.length := by simp [cLs]
@[simp] theorem cLs_get (l : List (List Int)) (k : Nat) (h : k < l.length) : nthP (cLs l) k = .sl (nth l k).length (ints (nth l k)) := nthP_map _ l k h
def badL (n : Net) (l : List Int) : Bool := decide (l.length ≠ n.places.length)
def badA (l : List Int) : Bool := anyD badN l 0
def lblE (n : Net) (ls : List (List Int)) : Int := if anyD (badL n) ls 0 = true then 10 else if anyD badA ls 0 = true then 2 else 0
theorem labelsErr_c (n : Net) (h : n.places.length < 1000) (ls : List (List Int)) (hls : ls.length < 1000) (hb : ∀ k, k < ls.length → (nth ls k).length < 1000) :
    RealCall Try.prog 105 [aNet n, .sl ls.length (cLs ls)] (.int .i64 (lblE n ls)) true := by
  generalize hR : lblE n ls = R
  unfold lblE at hR
  have kR := keep hR
  clear hR
  have kb := keep hb
  clear hb
  unfold aNet cNet
  refine realcall_intro Try.func105 (by kernel_rfl) rfl (Nat.le_of_ble_eq_true (by kernel_rfl)) ?_
  simp only [Try.results105, Try.ntmps105]
  repeat' (first | (with_reducible first | refine awp_seq ?_ | refine awp_blockS ?_ | refine awp_blockC ?_ | refine awp_blockR ?_ | refine awp_skip ?_ | refine awp_ret ?_ | refine awp_exit ?_ | refine awp_region ?_ | refine awp_condM ?_ | refine And.intro ?_ ?_ | refine gM_splitN ?_ ?_ | refine gM_split ?_ ?_ | refine condM_splitDN ?_ ?_ | refine condM_splitD ?_ ?_ | refine condM_splitN ?_ ?_ | refine condM_split ?_ ?_ | refine condM_any ?_ ?_ | intro _) | (simp [*]))
  refine awp_for3 (fun (k : Nat) => k ≤ ls.length ∧ anyD (badL n) ls k = anyD (badL n) ls 0) [1, 2, 9, 10] (fun (k : Nat) => [(11, .w false false (.int .i64 k))]) [0] (fun (k : Nat) => []) (fun (k : Nat) => ls.length - k) (fun (_u : Unit) => anyD (badL n) ls 0 = false) [1] (fun (_u : Unit) => []) [] (fun (_u : Unit) => []) (0) ⟨Nat.zero_le _, rfl⟩ (by simp) (by simp) (fun k hk => ?_) (fun _u hf => ?_)
  · obtain ⟨hk, hj⟩ := hk
    by_cases hlt : k < ls.length
    · rw [anyD_step _ _ _ hlt] at hj
      have hbk := kb k hlt
      by_cases hc : (nth ls k).length = n.places.length
      · have e : badL n (nth ls k) = false := decide_eq_false (by simp [hc])
        rw [e, Bool.false_or] at hj
        have kj := keep hj
        clear hj e
        repeat' (first | (with_reducible first | refine awp_seq ?_ | refine awp_blockS ?_ | refine awp_blockC ?_ | refine awp_blockR ?_ | refine awp_skip ?_ | refine awp_ret ?_ | refine awp_exit ?_ | refine awp_region ?_ | refine awp_condM ?_ | refine And.intro ?_ ?_ | refine gM_splitN ?_ ?_ | refine gM_split ?_ ?_ | refine condM_splitDN ?_ ?_ | refine condM_splitD ?_ ?_ | refine condM_splitN ?_ ?_ | refine condM_split ?_ ?_ | refine condM_any ?_ ?_ | intro _) | (simp [*, hlt, hc]))
        all_goals first
          | exact inI64 (by omega) (by omega)
          | omega
          | (refine loopK_normal _ _ _ _ _ (k + 1) _ ?_ (by first | omega | (dsimp only; omega) | (simp; omega)) ?_; (· exact ⟨by omega, kj⟩); (refine le_of ?_ ?_ <;> first | trivial | (simp [*]; done)))
          | skip
      · have e : badL n (nth ls k) = true := decide_eq_true hc
        rw [e, Bool.true_or] at hj
        have e : R = 10 := by rw [keep_def, if_pos hj.symm] at kR; exact kR.symm
        subst e
        clear hj
        repeat' (first | (with_reducible first | refine awp_seq ?_ | refine awp_blockS ?_ | refine awp_blockC ?_ | refine awp_blockR ?_ | refine awp_skip ?_ | refine awp_ret ?_ | refine awp_exit ?_ | refine awp_region ?_ | refine awp_condM ?_ | refine And.intro ?_ ?_ | refine gM_splitN ?_ ?_ | refine gM_split ?_ ?_ | refine condM_splitDN ?_ ?_ | refine condM_splitD ?_ ?_ | refine condM_splitN ?_ ?_ | refine condM_split ?_ ?_ | refine condM_any ?_ ?_ | intro _) | (simp [*, hlt, hc]))
        all_goals try omega
    · have hke : k = ls.length := by omega
      subst hke
      rw [anyD_end] at hj
      have kj := keep hj.symm
      clear hj
      repeat' (first | (with_reducible first | refine awp_seq ?_ | refine awp_blockS ?_ | refine awp_blockC ?_ | refine awp_blockR ?_ | refine awp_skip ?_ | refine awp_ret ?_ | refine awp_exit ?_ | refine awp_region ?_ | refine awp_condM ?_ | refine And.intro ?_ ?_ | refine gM_splitN ?_ ?_ | refine gM_split ?_ ?_ | refine condM_splitDN ?_ ?_ | refine condM_splitD ?_ ?_ | refine condM_splitN ?_ ?_ | refine condM_split ?_ ?_ | refine condM_any ?_ ?_ | intro _) | (simp [*]))
      (refine finW_intro () ?_ ?_; (· exact kj); (refine le_of ?_ ?_ <;> first | trivial | (simp [*]; done)))
  · rw [keep_def, hf, if_neg (by decide)] at kR
    have kR := keep kR
    clear hf
    repeat' (first | (with_reducible first | refine awp_seq ?_ | refine awp_blockS ?_ | refine awp_blockC ?_ | refine awp_blockR ?_ | refine awp_skip ?_ | refine awp_ret ?_ | refine awp_exit ?_ | refine awp_region ?_ | refine awp_condM ?_ | refine And.intro ?_ ?_ | refine gM_splitN ?_ ?_ | refine gM_split ?_ ?_ | refine condM_splitDN ?_ ?_ | refine condM_splitD ?_ ?_ | refine condM_splitN ?_ ?_ | refine condM_split ?_ ?_ | refine condM_any ?_ ?_ | intro _) | (simp [*]))
    refine awp_for3 (fun (k : Nat) => k ≤ ls.length ∧ anyD badA ls k = anyD badA ls 0) [23, 24] (fun (k : Nat) => [(25, .w false false (.int .i64 k))]) [] (fun (k : Nat) => []) (fun (k : Nat) => ls.length - k) (fun (_u : Unit) => anyD badA ls 0 = false) [] (fun (_u : Unit) => []) [] (fun (_u : Unit) => []) (0) ⟨Nat.zero_le _, rfl⟩ (by simp) (by simp) (fun k hk => ?_) (fun _u hf => ?_)
    · obtain ⟨hk, hj⟩ := hk
      by_cases hlt : k < ls.length
      · rw [anyD_step _ _ _ hlt] at hj
        have hbk := kb k hlt
        have cc : RealCall Try.prog 129 [.sl (nth ls k).length (ints (nth ls k)), .fn 130 []] (.bool (badA (nth ls k))) true := containsFuncI_c (nth ls k) 130 [] badN hbk (fun j _ => badN_c _)
        cases e : badA (nth ls k) with
        | false =>
          rw [e, Bool.false_or] at hj
          rw [e] at cc
          have kj := keep hj
          clear hj e
          repeat' (first | (with_reducible first | refine awp_seq ?_ | refine awp_blockS ?_ | refine awp_blockC ?_ | refine awp_blockR ?_ | refine awp_skip ?_ | refine awp_ret ?_ | refine awp_exit ?_ | refine awp_region ?_ | refine awp_condM ?_ | refine And.intro ?_ ?_ | refine gM_splitN ?_ ?_ | refine gM_split ?_ ?_ | refine condM_splitDN ?_ ?_ | refine condM_splitD ?_ ?_ | refine condM_splitN ?_ ?_ | refine condM_split ?_ ?_ | refine condM_any ?_ ?_ | refine cw (cc) ?_ | intro _) | (simp [*, hlt]))
          all_goals first
            | exact inI64 (by omega) (by omega)
            | omega
            | (refine loopK_normal _ _ _ _ _ (k + 1) _ ?_ (by first | omega | (dsimp only; omega) | (simp; omega)) ?_; (· exact ⟨by omega, kj⟩); (refine le_of ?_ ?_ <;> first | trivial | (simp [*]; done)))
            | skip
        | true =>
          rw [e, Bool.true_or] at hj
          rw [e] at cc
          have e : R = 2 := by rw [keep_def, if_pos hj.symm] at kR; exact kR.symm
          subst e
          clear hj
          repeat' (first | (with_reducible first | refine awp_seq ?_ | refine awp_blockS ?_ | refine awp_blockC ?_ | refine awp_blockR ?_ | refine awp_skip ?_ | refine awp_ret ?_ | refine awp_exit ?_ | refine awp_region ?_ | refine awp_condM ?_ | refine And.intro ?_ ?_ | refine gM_splitN ?_ ?_ | refine gM_split ?_ ?_ | refine condM_splitDN ?_ ?_ | refine condM_splitD ?_ ?_ | refine condM_splitN ?_ ?_ | refine condM_split ?_ ?_ | refine condM_any ?_ ?_ | refine cw (cc) ?_ | intro _) | (simp [*, hlt]))
          all_goals try omega
      · have hke : k = ls.length := by omega
        subst hke
        rw [anyD_end] at hj
        have kj := keep hj.symm
        clear hj
        repeat' (first | (with_reducible first | refine awp_seq ?_ | refine awp_blockS ?_ | refine awp_blockC ?_ | refine awp_blockR ?_ | refine awp_skip ?_ | refine awp_ret ?_ | refine awp_exit ?_ | refine awp_region ?_ | refine awp_condM ?_ | refine And.intro ?_ ?_ | refine gM_splitN ?_ ?_ | refine gM_split ?_ ?_ | refine condM_splitDN ?_ ?_ | refine condM_splitD ?_ ?_ | refine condM_splitN ?_ ?_ | refine condM_split ?_ ?_ | refine condM_any ?_ ?_ | intro _) | (simp [*]))
        (refine finW_intro () ?_ ?_; (· exact kj); (refine le_of ?_ ?_ <;> first | trivial | (simp [*]; done)))
    · rw [keep_def, hf, if_neg (by decide)] at kR
      subst kR
      repeat' (first | (with_reducible first | refine awp_seq ?_ | refine awp_blockS ?_ | refine awp_blockC ?_ | refine awp_blockR ?_ | refine awp_skip ?_ | refine awp_ret ?_ | refine awp_exit ?_ | refine awp_region ?_ | refine awp_condM ?_ | refine And.intro ?_ ?_ | refine gM_splitN ?_ ?_ | refine gM_split ?_ ?_ | refine condM_splitDN ?_ ?_ | refine condM_splitD ?_ ?_ | refine condM_splitN ?_ ?_ | refine condM_split ?_ ?_ | refine condM_any ?_ ?_ | intro _) | (simp [*]))
def badR (f : Road → Int → Int) (l : List Int) (r : Road) : Bool := !decide (nth l r.frm.toNat = -1) && (decide (nth l r.to.toNat = -1) || decide (f r (nth l r.frm.toNat) < nth l r.to.toNat))
set_option maxHeartbeats 4000000 in
theorem proves1_c (f : Road → Int → Int) (l : List Int) (hl : l.length < 1000) (r : Road) (h1 : 0 ≤ r.frm ∧ r.frm < l.length) (h2 : 0 ≤ r.to ∧ r.to < l.length) (g : Nat) (caps : List PV)
    (hg : nth l r.frm.toNat ≠ -1 → RealCall Try.prog g (.agg (cRoad r) :: .int .i64 (nth l r.frm.toNat) :: caps) (.int .i64 (f r (nth l r.frm.toNat))) true) :
    RealCall Try.prog 131 [.agg (cRoad r), .ip [.sl l.length (ints l)] 0, .ip [.fn g caps] 0] (.bool (badR f l r)) true := by
  have t1 : r.frm.toNat < l.length := by omega
  have t2 : r.to.toNat < l.length := by omega
  unfold badR
  by_cases ha : nth l r.frm.toNat = -1
  · rw [decide_eq_true ha]
    clear hg
    unfold cRoad
    refine realcall_intro Try.func131 (by kernel_rfl) rfl (Nat.le_of_ble_eq_true (by kernel_rfl)) ?_
    simp only [Try.results131, Try.ntmps131]
    repeat' (first | (with_reducible first | refine awp_seq ?_ | refine awp_blockS ?_ | refine awp_blockC ?_ | refine awp_blockR ?_ | refine awp_skip ?_ | refine awp_ret ?_ | refine awp_exit ?_ | refine awp_region ?_ | refine awp_regionD (id := 1) 31 mixed (by decide +kernel) ?_ | refine awp_condM ?_ | refine And.intro ?_ ?_ | refine gM_splitN ?_ ?_ | refine gM_split ?_ ?_ | refine condM_splitDN ?_ ?_ | refine condM_splitD ?_ ?_ | refine condM_splitN ?_ ?_ | refine condM_split ?_ ?_ | refine condM_any ?_ ?_ | intro _) | (simp [*, t1, t2, ha]))
    all_goals try omega
  · rw [decide_eq_false ha]
    have hc := hg ha
    clear hg
    by_cases hb : nth l r.to.toNat = -1
    · rw [decide_eq_true hb]
      unfold cRoad
      refine realcall_intro Try.func131 (by kernel_rfl) rfl (Nat.le_of_ble_eq_true (by kernel_rfl)) ?_
      simp only [Try.results131, Try.ntmps131]
      repeat' (first | (with_reducible first | refine awp_seq ?_ | refine awp_blockS ?_ | refine awp_blockC ?_ | refine awp_blockR ?_ | refine awp_skip ?_ | refine awp_ret ?_ | refine awp_exit ?_ | refine awp_region ?_ | refine awp_regionD (id := 1) 31 mixed (by decide +kernel) ?_ | refine awp_condM ?_ | refine And.intro ?_ ?_ | refine gM_splitN ?_ ?_ | refine gM_split ?_ ?_ | refine condM_splitDN ?_ ?_ | refine condM_splitD ?_ ?_ | refine condM_splitN ?_ ?_ | refine condM_split ?_ ?_ | refine condM_any ?_ ?_ | intro _) | (simp [*, t1, t2, ha, hb]))
      all_goals try omega
    · rw [decide_eq_false hb]
      unfold cRoad at *
      refine realcall_intro Try.func131 (by kernel_rfl) rfl (Nat.le_of_ble_eq_true (by kernel_rfl)) ?_
      simp only [Try.results131, Try.ntmps131]
      repeat' (first | (with_reducible first | refine awp_seq ?_ | refine awp_blockS ?_ | refine awp_blockC ?_ | refine awp_blockR ?_ | refine awp_skip ?_ | refine awp_ret ?_ | refine awp_exit ?_ | refine awp_region ?_ | refine awp_regionD (id := 1) 31 mixed (by decide +kernel) ?_ | refine awp_condM ?_ | refine And.intro ?_ ?_ | refine gM_splitN ?_ ?_ | refine gM_split ?_ ?_ | refine condM_splitDN ?_ ?_ | refine condM_splitD ?_ ?_ | refine condM_splitN ?_ ?_ | refine condM_split ?_ ?_ | refine condM_any ?_ ?_ | refine cw (hc) ?_ | intro _) | (simp [*, t1, t2, ha, hb]))
      all_goals try omega
theorem proves_c (f : Road → Int → Int) (n : Net) (hnr : n.roads.length < 1000) (l : List Int) (hl : l.length < 1000) (hr : ∀ k, k < n.roads.length → (0 ≤ (nth n.roads k).frm ∧ (nth n.roads k).frm < l.length) ∧ 0 ≤ (nth n.roads k).to ∧ (nth n.roads k).to < l.length) (g : Nat) (caps : List PV)
    (hg : ∀ k, k < n.roads.length → nth l (nth n.roads k).frm.toNat ≠ -1 → RealCall Try.prog g (.agg (cRoad (nth n.roads k)) :: .int .i64 (nth l (nth n.roads k).frm.toNat) :: caps) (.int .i64 (f (nth n.roads k) (nth l (nth n.roads k).frm.toNat))) true) :
    RealCall Try.prog 107 [aNet n, .sl l.length (ints l), .fn g caps] (.bool (!anyD (badR f l) n.roads 0)) true := by
  have cc : RealCall Try.prog 75 [.sl n.roads.length (cRoads n.roads), .fn 131 [.ip [.sl l.length (ints l)] 0, .ip [.fn g caps] 0]] (.bool (anyD (badR f l) n.roads 0)) true :=
    containsFunc_c n.roads 131 _ (badR f l) hnr (fun k hk => proves1_c f l hl (nth n.roads k) (hr k hk).1 (hr k hk).2 g caps (hg k hk))
  clear hg
  unfold aNet cNet
  refine realcall_intro Try.func107 (by kernel_rfl) rfl (Nat.le_of_ble_eq_true (by kernel_rfl)) ?_
  simp only [Try.results107, Try.ntmps107]
  repeat' (first | (with_reducible first | refine awp_seq ?_ | refine awp_blockS ?_ | refine awp_blockC ?_ | refine awp_blockR ?_ | refine awp_skip ?_ | refine awp_ret ?_ | refine awp_exit ?_ | refine awp_region ?_ | refine awp_condM ?_ | refine And.intro ?_ ?_ | refine gM_splitN ?_ ?_ | refine gM_split ?_ ?_ | refine condM_splitDN ?_ ?_ | refine condM_splitD ?_ ?_ | refine condM_splitN ?_ ?_ | refine condM_split ?_ ?_ | refine condM_any ?_ ?_ | refine cw (cc) ?_ | intro _) | (simp [*]))
end Go.Proofs.Ytmedbghkldmlhaa
