/- Contracts of functions for this claim: lemmas alone. -/
import Derived.Test.YtdgbfbgnbgfmjaaGreatDoorP41
import Derived.Test.YtdgbfbgnbgfmjaaGreatDoorP10
import Derived.Test.YtdgbfbgnbgfmjaaGreatDoorLo
set_option linter.unusedSimpArgs false
set_option linter.unusedVariables false
namespace Go.Proofs.YtdgbfbgnbgfmjaaGreatDoor
open Go Go.Fi
set_option maxRecDepth 20000
attribute [-simp] cEntries_drop2

/-! ### what is open of an account -/
def opK (l : List Item) (left : Int) : Nat → List Item × Int
  | 0 => (l, left)
  | k + 1 => ((opK l left k).1.set k ⟨(nth (opK l left k).1 k).entry, (nth (opK l left k).1 k).op - min (opK l left k).2 (nth (opK l left k).1 k).op⟩, (opK l left k).2 - min (opK l left k).2 (nth (opK l left k).1 k).op)
@[simp] theorem opK_zero (l : List Item) (left : Int) : opK l left 0 = (l, left) := rfl
theorem opK_succ1 (l : List Item) (left : Int) (k : Nat) : (opK l left (k + 1)).1 = (opK l left k).1.set k ⟨(nth (opK l left k).1 k).entry, (nth (opK l left k).1 k).op - min (opK l left k).2 (nth (opK l left k).1 k).op⟩ := rfl
theorem opK_succ2 (l : List Item) (left : Int) (k : Nat) : (opK l left (k + 1)).2 = (opK l left k).2 - min (opK l left k).2 (nth (opK l left k).1 k).op := rfl
def lineQ (q : List Item × Int) (e a : Int) : List Item × Int :=
  if 0 < a then (q.1 ++ [⟨e, a - min a q.2⟩], q.2 - min a q.2) else ((opK q.1 (-a) q.1.length).1, q.2 + (opK q.1 (-a) q.1.length).2)
theorem lineQ_pos (q : List Item × Int) (e a : Int) (h : 0 < a) : lineQ q e a = (q.1 ++ [⟨e, a - min a q.2⟩], q.2 - min a q.2) := if_pos h
theorem lineQ_neg (q : List Item × Int) (e a : Int) (h : ¬ 0 < a) : lineQ q e a = ((opK q.1 (-a) q.1.length).1, q.2 + (opK q.1 (-a) q.1.length).2) := if_neg h
def lnK (n : ByteArray) (e : Int) (ls : List Line) (q : List Item × Int) : Nat → List Item × Int
  | 0 => q
  | k + 1 => if (nth ls k).acc = n then lineQ (lnK n e ls q k) e (nth ls k).amt else lnK n e ls q k
@[simp] theorem lnK_zero (n : ByteArray) (e : Int) (ls : List Line) (q : List Item × Int) : lnK n e ls q 0 = q := rfl
theorem lnK_yes (n : ByteArray) (e : Int) (ls : List Line) (q : List Item × Int) (k : Nat) (h : (nth ls k).acc = n) : lnK n e ls q (k + 1) = lineQ (lnK n e ls q k) e (nth ls k).amt := if_pos h
theorem lnK_no (n : ByteArray) (e : Int) (ls : List Line) (q : List Item × Int) (k : Nat) (h : ¬ (nth ls k).acc = n) : lnK n e ls q (k + 1) = lnK n e ls q k := if_neg h
def enK (n : ByteArray) (l : List Entry) : Nat → List Item × Int
  | 0 => ([], 0)
  | k + 1 => lnK n k (nth l k).lines (enK n l k) (nth l k).lines.length
@[simp] theorem enK_zero (n : ByteArray) (l : List Entry) : enK n l 0 = ([], 0) := rfl
theorem enK_succ (n : ByteArray) (l : List Entry) (k : Nat) : enK n l (k + 1) = lnK n k (nth l k).lines (enK n l k) (nth l k).lines.length := rfl
/-- items of one entry together -/
def grK (l : List Item) : Nat → List Item
  | 0 => []
  | k + 1 => if (nth l k).op = 0 then grK l k else if 0 < (grK l k).length ∧ (nth (grK l k) ((grK l k).length - 1)).entry = (nth l k).entry then (grK l k).set ((grK l k).length - 1) ⟨(nth (grK l k) ((grK l k).length - 1)).entry, (nth (grK l k) ((grK l k).length - 1)).op + (nth l k).op⟩ else grK l k ++ [nth l k]
@[simp] theorem grK_zero (l : List Item) : grK l 0 = [] := rfl
theorem grK_no (l : List Item) (k : Nat) (h : (nth l k).op = 0) : grK l (k + 1) = grK l k := if_pos h
theorem grK_add (l : List Item) (k : Nat) (h : ¬ (nth l k).op = 0) (h1 : 0 < (grK l k).length) (h2 : (nth (grK l k) ((grK l k).length - 1)).entry = (nth l k).entry) : grK l (k + 1) = (grK l k).set ((grK l k).length - 1) ⟨(nth (grK l k) ((grK l k).length - 1)).entry, (nth (grK l k) ((grK l k).length - 1)).op + (nth l k).op⟩ := by
  rw [grK, if_neg h, if_pos ⟨h1, h2⟩]
theorem grK_new (l : List Item) (k : Nat) (h : ¬ (nth l k).op = 0) (h1 : (grK l k).length = 0 ∨ ¬ (nth (grK l k) ((grK l k).length - 1)).entry = (nth l k).entry) : grK l (k + 1) = grK l k ++ [⟨(nth l k).entry, (nth l k).op⟩] := by
  rw [grK, if_neg h, if_neg (fun hh => by rcases h1 with h1 | h1; exact absurd hh.1 (by omega); exact h1 hh.2)]
theorem nth_setI (l : List Item) (i j : Nat) (v : Item) (h : i < l.length) : nth (l.set i v) j = if i = j then v else nth l j := by
  simp only [nth, List.getD_eq_getElem?_getD, List.getElem?_set]
  split
  · rename_i e; subst e; simp [h]
  · rfl
theorem nth_appI (l : List Item) (x : Item) (j : Nat) (h : j < l.length + 1) : nth (l ++ [x]) j = if j = l.length then x else nth l j := by
  simp only [nth, List.getD_eq_getElem?_getD]
  split
  · rename_i e; subst e; simp
  · rename_i e; rw [List.getElem?_append_left (by omega)]
def sumO : List Item → Int
  | [] => 0
  | x :: r => x.op + sumO r
@[simp] theorem sumO_nil : sumO [] = 0 := rfl
theorem sumO_snoc (x : Item) : ∀ l : List Item, sumO (l ++ [x]) = sumO l + x.op
  | [] => by simp [sumO]
  | y :: l => by simp only [List.cons_append, sumO, sumO_snoc x l]; omega
theorem sumO_succ (l : List Item) (k : Nat) (h : k < l.length) : sumO (l.take (k + 1)) = sumO (l.take k) + (nth l k).op := by
  rw [take_succ_nth l k h, sumO_snoc]
theorem sumO_set (v : Item) : ∀ (l : List Item) (k : Nat), k < l.length → sumO (l.set k v) = sumO l - (nth l k).op + v.op
  | x :: r, 0, _ => by rw [List.set_cons_zero]; simp only [sumO]; rw [show nth (x :: r) 0 = x from rfl]; omega
  | x :: r, k + 1, h => by
    rw [List.set_cons_succ]
    simp only [sumO]
    rw [sumO_set v r k (by simpa using h), show nth (x :: r) (k + 1) = nth r k from rfl]
    omega
structure OpB (l : List Item) (left : Int) (k : Nat) : Prop where
  len : (opK l left k).1.length = l.length
  ops : ∀ j, j < l.length → 0 ≤ (nth (opK l left k).1 j).op ∧ (nth (opK l left k).1 j).op ≤ 1000000000
  lo : 0 ≤ (opK l left k).2
  hi : (opK l left k).2 ≤ left
  sum : sumO (opK l left k).1 = sumO l - (left - (opK l left k).2)
theorem opK_bd (l : List Item) (left : Int) (h : ∀ j, j < l.length → 0 ≤ (nth l j).op ∧ (nth l j).op ≤ 1000000000) (h0 : 0 ≤ left) : ∀ k, k ≤ l.length → OpB l left k
  | 0, _ => ⟨rfl, h, h0, Int.le_refl _, by simp⟩
  | k + 1, hk => by
    obtain ⟨h1, h2, h3, h4, h5⟩ := opK_bd l left h h0 k (by omega)
    have hx := h2 k (by omega)
    have hs := sumO_set ⟨(nth (opK l left k).1 k).entry, (nth (opK l left k).1 k).op - min (opK l left k).2 (nth (opK l left k).1 k).op⟩ (opK l left k).1 k (by omega)
    dsimp only at hs
    refine ⟨?_, fun j hj => ?_, ?_, ?_, ?_⟩
    · rw [opK_succ1, List.length_set]; exact h1
    · have hy := h2 j hj
      rw [opK_succ1, nth_setI _ _ _ _ (by omega)]
      split
      · dsimp only; omega
      · exact hy
    · rw [opK_succ2]; omega
    · rw [opK_succ2]; omega
    · rw [opK_succ1, opK_succ2, hs, h5]; omega
structure QB (q : List Item × Int) (m : Nat) : Prop where
  len : q.1.length ≤ m
  ops : ∀ j, j < q.1.length → 0 ≤ (nth q.1 j).op ∧ (nth q.1 j).op ≤ 1000000000
  lo : 0 ≤ q.2
  hi : q.2 ≤ 1000000000 * (m : Int)
theorem lineQ_bd {q : List Item × Int} {m : Nat} (h : QB q m) (e a : Int) (h1 : -1000000000 ≤ a) (h2 : a ≤ 1000000000) : QB (lineQ q e a) (m + 1) ∧ sumO (lineQ q e a).1 - (lineQ q e a).2 = sumO q.1 - q.2 + a := by
  obtain ⟨q1, q2, q3, q4⟩ := h
  by_cases hp : 0 < a
  · rw [lineQ_pos q e a hp]
    refine ⟨⟨?_, fun j hj => ?_, ?_, ?_⟩, ?_⟩
    · simp; omega
    · dsimp only at hj ⊢
      rw [List.length_append, List.length_singleton] at hj
      rw [nth_appI _ _ _ hj]
      split
      · dsimp only; omega
      · exact q2 j (by omega)
    · dsimp only; omega
    · dsimp only; omega
    · dsimp only; rw [sumO_snoc]; dsimp only; omega
  · rw [lineQ_neg q e a hp]
    obtain ⟨b1, b2, b3, b4, b5⟩ := opK_bd q.1 (-a) q2 (by omega) q.1.length (Nat.le_refl _)
    refine ⟨⟨?_, fun j hj => ?_, ?_, ?_⟩, ?_⟩
    · dsimp only; omega
    · exact b2 j (by dsimp only at hj; omega)
    · dsimp only; omega
    · dsimp only; omega
    · dsimp only; omega
theorem lnK_bd {q : List Item × Int} {m : Nat} (h : QB q m) (n : ByteArray) (e : Int) (ls : List Line) (ha : ∀ j, j < ls.length → -1000000000 ≤ (nth ls j).amt ∧ (nth ls j).amt ≤ 1000000000) : ∀ k, k ≤ ls.length → QB (lnK n e ls q k) (m + k) ∧ sumO (lnK n e ls q k).1 - (lnK n e ls q k).2 = sumO q.1 - q.2 + putS n (ls.take k)
  | 0, _ => ⟨h, by simp⟩
  | k + 1, hk => by
    obtain ⟨i1, i2⟩ := lnK_bd h n e ls ha k (by omega)
    have hA := ha k (by omega)
    rw [putS_succ n ls k (by omega)]
    by_cases hq : (nth ls k).acc = n
    · obtain ⟨j1, j2⟩ := lineQ_bd i1 e (nth ls k).amt hA.1 hA.2
      rw [lnK_yes n e ls q k hq, if_pos hq]
      exact ⟨j1, by omega⟩
    · rw [lnK_no n e ls q k hq, if_neg hq]
      obtain ⟨q1, q2, q3, q4⟩ := i1
      exact ⟨⟨by omega, q2, q3, by omega⟩, by omega⟩
theorem enK_bd (n : ByteArray) (l : List Entry) (h : EntsTight l) : ∀ k, k ≤ l.length → QB (enK n l k) (12 * k) ∧ sumO (enK n l k).1 - (enK n l k).2 = runK n l k
  | 0, _ => ⟨⟨Nat.le_refl _, fun j hj => absurd hj (Nat.not_lt_zero _), Int.le_refl _, Int.le_refl _⟩, rfl⟩
  | k + 1, hk => by
    obtain ⟨i1, i2⟩ := enK_bd n l h k (by omega)
    have hl := h.lines k (by omega)
    obtain ⟨j1, j2⟩ := lnK_bd i1 n k (nth l k).lines (h.amt k (by omega)) (nth l k).lines.length (Nat.le_refl _)
    rw [List.take_length] at j2
    rw [enK_succ, runK_succ]
    obtain ⟨q1, q2, q3, q4⟩ := j1
    exact ⟨⟨by omega, q2, q3, by omega⟩, by omega⟩
structure GrB (l : List Item) (k : Nat) : Prop where
  len : (grK l k).length ≤ k
  ops : ∀ j, j < (grK l k).length → 0 ≤ (nth (grK l k) j).op ∧ (nth (grK l k) j).op ≤ 1000000000 * (k : Int)
  sum : sumO (grK l k) = sumO (l.take k)
theorem grK_bd (l : List Item) (h : ∀ j, j < l.length → 0 ≤ (nth l j).op ∧ (nth l j).op ≤ 1000000000) : ∀ k, k ≤ l.length → GrB l k
  | 0, _ => ⟨Nat.le_refl _, fun j hj => absurd hj (Nat.not_lt_zero _), rfl⟩
  | k + 1, hk => by
    obtain ⟨i1, i2, i3⟩ := grK_bd l h k (by omega)
    have hx := h k (by omega)
    have hs := sumO_succ l k (by omega)
    by_cases h0 : (nth l k).op = 0
    · rw [h0] at hs
      have e := grK_no l k h0
      refine ⟨by rw [e]; omega, fun j hj => ?_, by rw [e, hs, i3]; omega⟩
      rw [e] at hj ⊢
      have := i2 j hj
      omega
    · by_cases h1 : 0 < (grK l k).length ∧ (nth (grK l k) ((grK l k).length - 1)).entry = (nth l k).entry
      · have e := grK_add l k h0 h1.1 h1.2
        have hl := i2 ((grK l k).length - 1) (by omega)
        refine ⟨by rw [e, List.length_set]; omega, fun j hj => ?_, ?_⟩
        · rw [e, List.length_set] at hj
          have := i2 j hj
          rw [e, nth_setI _ _ _ _ (by omega)]
          split
          · dsimp only; omega
          · omega
        · rw [e, sumO_set _ _ _ (by omega), hs, i3]; dsimp only; omega
      · have e := grK_new l k h0 (by
          by_cases h2 : (grK l k).length = 0
          · exact .inl h2
          · exact .inr fun h3 => h1 ⟨by omega, h3⟩)
        refine ⟨by rw [e]; simp; omega, fun j hj => ?_, ?_⟩
        · rw [e, List.length_append, List.length_singleton] at hj
          rw [e, nth_appI _ _ _ hj]
          split
          · dsimp only; omega
          · have := i2 j (by omega)
            omega
        · rw [e, sumO_snoc, hs, i3]
/-- what is open of an account, item by item -/
def openS (n : ByteArray) (l : List Entry) : List Item := grK (enK n l l.length).1 (enK n l l.length).1.length
theorem openS_sum (n : ByteArray) (l : List Entry) (h : EntsTight l) : sumO (openS n l) - (enK n l l.length).2 = runK n l l.length := by
  obtain ⟨i1, i2⟩ := enK_bd n l h l.length (Nat.le_refl _)
  obtain ⟨_, _, g3⟩ := grK_bd _ i1.ops _ (Nat.le_refl _)
  unfold openS
  rw [g3, List.take_length]
  exact i2
theorem tA_0 (l : List Item) (k : Nat) (h : k < l.length) : nthA (tA l) (k * 2) = .w false false (.int .i64 (nth l k).entry) := by
  unfold tA; rw [nthA_map _ _ _ (by simp; omega), cItems_0 l k h]
theorem tA_1 (l : List Item) (k : Nat) (h : k < l.length) : nthA (tA l) (k * 2 + 1) = .w false false (.int .i64 (nth l k).op) := by
  unfold tA; rw [nthA_map _ _ _ (by simp; omega), cItems_1 l k h]
theorem cItems_set1 (v : Int) : ∀ (l : List Item) (k : Nat), k < l.length → (cItems l).set (k * 2 + 1) (.int .i64 v) = cItems (l.set k ⟨(nth l k).entry, v⟩)
  | x :: r, 0, _ => rfl
  | x :: r, k + 1, h => by
    rw [List.set_cons_succ, show nth (x :: r) (k + 1) = nth r k from rfl]
    have ih := cItems_set1 v r k (by simpa using h)
    show (PV.int .i64 x.entry :: PV.int .i64 x.op :: cItems r).set ((k + 1) * 2 + 1) (.int .i64 v) = PV.int .i64 x.entry :: PV.int .i64 x.op :: cItems _
    rw [← ih, show (k + 1) * 2 + 1 = (k * 2 + 1) + 1 + 1 by omega, List.set_cons_succ, List.set_cons_succ]
theorem tA_set1 (l : List Item) (k : Nat) (v : Int) (h : k < l.length) : (tA l).set (k * 2 + 1) (.w false false (.int .i64 v)) = tA (l.set k ⟨(nth l k).entry, v⟩) := by
  unfold tA; rw [← cItems_set1 v l k h, List.map_set]
theorem tA_drop (l : List Item) (k : Nat) (h : k < l.length) : ((tA l).drop (k * 2)).take 2 = [.w false false (.int .i64 (nth l k).entry), .w false false (.int .i64 (nth l k).op)] := by
  unfold tA; rw [← List.map_drop, ← List.map_take, cItems_drop l k h]; rfl
end Go.Proofs.YtdgbfbgnbgfmjaaGreatDoor
namespace Go.Proofs.YtdgbfbgnbgfmjaaGreatDoor
open Go Go.Fi
set_option maxRecDepth 20000
attribute [-simp] cEntries_drop2

theorem ite_min (a b : Int) : (if b < a then b else a) = min a b := by
  by_cases h : b < a
  · rw [if_pos h]; omega
  · rw [if_neg h]; omega
def openE (b : Book) (n : ByteArray) : Int := firstS [(bookS b).2, errUnless (hasS b.accs n) 6]
theorem openItems_bad (b : Book) (hb : BookIn b) (n : ByteArray) (h : ¬ openE b n = 0) : RealCall Tryz.prog 60 [.agg (cBook b), .str n] (.tup [.sl 0 [], .int .i64 (openE b n)]) true := by
  have c1 := open_c b hb
  have c2 := accountErr_c b (by have := hb.accs.len; omega) n
  have c5 := first2_c (bookS b).2 (errUnless (hasS b.accs n) 6)
  change RealCall _ _ _ (.int .i64 (openE b n)) true at c5
  generalize openE b n = X at *
  generalize (bookS b).2 = Y at *
  unfold cBook at *
  refine realcall_intro Tryz.func60 (by kernel_rfl) rfl (Nat.le_of_ble_eq_true (by kernel_rfl)) ?_
  simp only [Tryz.results60, Tryz.ntmps60]
  repeat' (first | (with_reducible first | refine awp_seq ?_ | refine awp_blockS ?_ | refine awp_blockC ?_ | refine awp_blockR ?_ | refine awp_skip ?_ | refine awp_ret ?_ | refine awp_exit ?_ | refine awp_region ?_ | refine awp_regionD (id := 23) 14 mixed (by decide +kernel) ?_ | refine awp_regionD (id := 24) 11 mixed (by decide +kernel) ?_ | refine awp_condM ?_ | refine And.intro ?_ ?_ | apply gQ_merge | apply gE_merge | exact EqV_w | exact EqE_w | exact EqV_ptr | exact EqE_ptr | exact EqV_msl | exact EqE_msl | exact EqV_agg | exact EqE_agg | exact EqV_fn | exact EqE_fn | exact EqV_gd | exact EqE_gd | refine gM_splitN ?_ ?_ | refine gM_split ?_ ?_ |  refine condM_splitDN ?_ ?_ | refine condM_splitD ?_ ?_ | refine condM_splitN ?_ ?_ | refine condM_split ?_ ?_ | refine condM_any ?_ ?_ | refine cw (c1) ?_ | refine cw (c2) ?_ | refine cw (c5) ?_ | intro _) | (simp [*, h]) | (refine cw_eq (c1) ?_ ?_; (· (simp [*]; done))) | (refine cw_eq (c2) ?_ ?_; (· (simp [*]; done))) | (refine cw_eq (c5) ?_ ?_; (· (simp [*]; done))))
set_option maxHeartbeats 16000000 in
theorem openItems_ok (b : Book) (hb : BookIn b) (n : ByteArray) (h : openE b n = 0) : RealCall Tryz.prog 60 [.agg (cBook b), .str n] (.tup [.sl (openS n b.entries).length (cItems (openS n b.entries)), .int .i64 0]) true := by
  have c1 := open_c b hb
  have c2 := accountErr_c b (by have := hb.accs.len; omega) n
  have c5 := first2_c (bookS b).2 (errUnless (hasS b.accs n) 6)
  change RealCall _ _ _ (.int .i64 (openE b n)) true at c5
  have hb0 := firstS_zero h (bookS b).2 (by simp)
  have ht := (bookS_zero hb0).tight
  rw [h] at c5
  rw [hb0] at c1 c5
  have hlen := ht.len
  clear h hb0 hb
  unfold openS
  obtain ⟨ba, be, bc⟩ := b
  unfold cBook at *
  dsimp only at *
  have kq := keep (fun k hk => (enK_bd n be ht k hk).1)
  have kt := keep ht
  clear ht
  refine realcall_intro Tryz.func60 (by kernel_rfl) rfl (Nat.le_of_ble_eq_true (by kernel_rfl)) ?_
  simp only [Tryz.results60, Tryz.ntmps60]
  repeat' (first | (with_reducible first | refine awp_seq ?_ | refine awp_blockS ?_ | refine awp_blockC ?_ | refine awp_blockR ?_ | refine awp_skip ?_ | refine awp_ret ?_ | refine awp_exit ?_ | refine awp_region ?_ | refine awp_regionD (id := 23) 14 mixed (by decide +kernel) ?_ | refine awp_regionD (id := 24) 11 mixed (by decide +kernel) ?_ | refine awp_condM ?_ | refine And.intro ?_ ?_ | apply gQ_merge | apply gE_merge | exact EqV_w | exact EqE_w | exact EqV_ptr | exact EqE_ptr | exact EqV_msl | exact EqE_msl | exact EqV_agg | exact EqE_agg | exact EqV_fn | exact EqE_fn | exact EqV_gd | exact EqE_gd | refine gM_splitN ?_ ?_ | refine gM_split ?_ ?_ |  refine condM_splitDN ?_ ?_ | refine condM_splitD ?_ ?_ | refine condM_splitN ?_ ?_ | refine condM_split ?_ ?_ | refine condM_any ?_ ?_ | refine cw (c1) ?_ | refine cw (c2) ?_ | refine cw (c5) ?_ | intro _) | (simp [*]) | (refine cw_eq (c1) ?_ ?_; (· (simp [*]; done))) | (refine cw_eq (c2) ?_ ?_; (· (simp [*]; done))) | (refine cw_eq (c5) ?_ ?_; (· (simp [*]; done))))
  clear c1 c2 c5
  refine awp_for4 5 (fun (k : Nat) => k ≤ be.length) [1, 8, 32, 33] (fun (k : Nat) => [(34, .w false false (.int .i64 k))]) [] (fun (k : Nat) => [(3, [.msl 4 ((enK n be k).1.length * 2) 2 0 (enK n be k).1.length, .w false false (.int .i64 (enK n be k).2)]), (4, tA (enK n be k).1)]) (fun (k : Nat) => be.length - k) (fun (_u : Unit) => True) [8] (fun (_u : Unit) => []) [] (fun (_u : Unit) => [(3, [.msl 4 ((enK n be be.length).1.length * 2) 2 0 (enK n be be.length).1.length, .w false false (.int .i64 (enK n be be.length).2)]), (4, tA (enK n be be.length).1)]) (0) (Nat.zero_le _) (le_gen [] (by simp) (by simp)) (fun k hk => ?_) (fun _u hf => ?_)
  · by_cases hlt : k < be.length
    · have hq := (show ∀ k, k ≤ be.length → QB (enK n be k) (12 * k) from kq) k hk
      have hll := (show EntsTight be from kt).lines k hlt
      have hla := (show EntsTight be from kt).amt k hlt
      have hs := enK_succ n be k
      clear kq kt
      generalize enK n be k = Q at *
      have kl := keep (fun j hj => (lnK_bd hq n k (nth be k).lines hla j hj).1)
      have kla := keep hla
      have kss := keep hs
      clear hla hs
      repeat' (first | (with_reducible first | refine awp_seq ?_ | refine awp_blockS ?_ | refine awp_blockC ?_ | refine awp_blockR ?_ | refine awp_skip ?_ | refine awp_ret ?_ | refine awp_exit ?_ | refine awp_region ?_ | refine awp_regionD (id := 23) 14 mixed (by decide +kernel) ?_ | refine awp_regionD (id := 24) 11 mixed (by decide +kernel) ?_ | refine awp_condM ?_ | refine And.intro ?_ ?_ | apply gQ_merge | apply gE_merge | exact EqV_w | exact EqE_w | exact EqV_ptr | exact EqE_ptr | exact EqV_msl | exact EqE_msl | exact EqV_agg | exact EqE_agg | exact EqV_fn | exact EqE_fn | exact EqV_gd | exact EqE_gd | refine gM_splitN ?_ ?_ | refine gM_split ?_ ?_ |  refine condM_splitDN ?_ ?_ | refine condM_splitD ?_ ?_ | refine condM_splitN ?_ ?_ | refine condM_split ?_ ?_ | refine condM_any ?_ ?_ | intro _) | (simp [*, hlt, cEntry]))
      all_goals try first | exact inI64 (by omega) (by omega) | omega
      refine awp_for4 6 (fun (j : Nat) => j ≤ (nth be k).lines.length) [1, 8, 9, 32, 33, 34, 40, 41] (fun (j : Nat) => [(42, .w false false (.int .i64 j))]) [] (fun (j : Nat) => [(3, [.msl 4 ((lnK n (k : Int) (nth be k).lines Q j).1.length * 2) 2 0 (lnK n (k : Int) (nth be k).lines Q j).1.length, .w false false (.int .i64 (lnK n (k : Int) (nth be k).lines Q j).2)]), (4, tA (lnK n (k : Int) (nth be k).lines Q j).1)]) (fun (j : Nat) => (nth be k).lines.length - j) (fun (_u : Unit) => True) [1, 8, 32, 33, 34] (fun (_u : Unit) => []) [] (fun (_u : Unit) => [(3, [.msl 4 ((lnK n (k : Int) (nth be k).lines Q (nth be k).lines.length).1.length * 2) 2 0 (lnK n (k : Int) (nth be k).lines Q (nth be k).lines.length).1.length, .w false false (.int .i64 (lnK n (k : Int) (nth be k).lines Q (nth be k).lines.length).2)]), (4, tA (lnK n (k : Int) (nth be k).lines Q (nth be k).lines.length).1)]) (0) (Nat.zero_le _) (le_gen [] (by simp) (by simp)) (fun j hk => ?_) (fun _u hf => ?_)
      · by_cases hj2 : j < (nth be k).lines.length
        · have hb := (show ∀ (j : Nat), j ≤ (nth be k).lines.length → QB (lnK n (k : Int) (nth be k).lines Q j) (12 * k + j) from kl) j hk
          have ha := (show ∀ (j : Nat), j < (nth be k).lines.length → -1000000000 ≤ (nth (nth be k).lines j).amt ∧ (nth (nth be k).lines j).amt ≤ 1000000000 from kla) j hj2
          have hy := lnK_yes n (k : Int) (nth be k).lines Q j
          have hn := lnK_no n (k : Int) (nth be k).lines Q j
          obtain ⟨b1, b2, b3, b4⟩ := hb
          have kb2 := keep b2
          clear kl kla hq b2
          generalize lnK n (k : Int) (nth be k).lines Q j = R at *
          by_cases hq : (nth (nth be k).lines j).acc = n
          · have ks := hy hq
            clear hy hn
            generalize ham : (nth (nth be k).lines j).amt = a at *
            by_cases hp : 0 < a
            · rw [lineQ_pos _ _ _ hp] at ks
              have kk := keep ks
              clear ks
              repeat' (first | (with_reducible first | refine awp_regionJ (id := 13) 3 Tryz.func123 (by kernel_rfl) rfl (by decide) rfl ?_ | refine awp_seq ?_ | refine awp_blockS ?_ | refine awp_blockC ?_ | refine awp_blockR ?_ | refine awp_skip ?_ | refine awp_ret ?_ | refine awp_exit ?_ | refine awp_region ?_ | refine awp_regionD (id := 23) 14 mixed (by decide +kernel) ?_ | refine awp_regionD (id := 24) 11 mixed (by decide +kernel) ?_ | refine awp_condM ?_ | refine And.intro ?_ ?_ | apply gQ_merge | apply gE_merge | exact EqV_w | exact EqE_w | exact EqV_ptr | exact EqE_ptr | exact EqV_msl | exact EqE_msl | exact EqV_agg | exact EqE_agg | exact EqV_fn | exact EqE_fn | exact EqV_gd | exact EqE_gd | refine gM_splitN ?_ ?_ | refine gM_split ?_ ?_ |  refine condM_splitDN ?_ ?_ | refine condM_splitD ?_ ?_ | refine condM_splitN ?_ ?_ | refine condM_split ?_ ?_ | refine condM_any ?_ ?_ | intro _) | (simp [*, hj2, hq, cLine, ham]))
              all_goals try first | exact inI64 (by omega) (by omega) | omega
              refine inlM_intro (Nat.le_of_ble_eq_true (by kernel_rfl)) (by simp) rfl ?_
              repeat' (first | (with_reducible first | refine awp_seq ?_ | refine awp_blockS ?_ | refine awp_blockC ?_ | refine awp_blockR ?_ | refine awp_skip ?_ | refine awp_ret ?_ | refine awp_exit ?_ | refine awp_region ?_ | refine awp_regionS (id := 9) [0, 1, 2, 3, 4, 5, 6, 7, 8, 9, 10, 11, 12, 13, 14, 15, 16, 17, 18, 19] [20, 21] [[], [], [], [], [], [], [], [], [], [], [], [], [], [], [], [.fld 0 188 0], [.fld 0 188 0], [.fld 0 188 0], [], []] [[.fld 0 188 0], []] mixed (by decide +kernel) ?_ | refine awp_condM ?_ | refine And.intro ?_ ?_ | apply gQ_merge | apply gE_merge | exact EqV_w | exact EqE_w | exact EqV_ptr | exact EqE_ptr | exact EqV_msl | exact EqE_msl | exact EqV_agg | exact EqE_agg | exact EqV_fn | exact EqE_fn | exact EqV_gd | exact EqE_gd | refine gM_splitN ?_ ?_ | refine gM_split ?_ ?_ |  refine condM_splitDN ?_ ?_ | refine condM_splitD ?_ ?_ | refine condM_splitN ?_ ?_ | refine condM_split ?_ ?_ | refine condM_any ?_ ?_ | intro _) | (simp [*, hp, ite_min]))
              all_goals try first | exact inI64 (by omega) (by omega) | omega
              simp [RetA, resL]
              repeat' (first | (with_reducible first | refine awp_seq ?_ | refine awp_blockS ?_ | refine awp_blockC ?_ | refine awp_blockR ?_ | refine awp_skip ?_ | refine awp_ret ?_ | refine awp_exit ?_ | refine awp_region ?_ | refine awp_regionD (id := 23) 14 mixed (by decide +kernel) ?_ | refine awp_regionD (id := 24) 11 mixed (by decide +kernel) ?_ | refine awp_condM ?_ | refine And.intro ?_ ?_ | apply gQ_merge | apply gE_merge | exact EqV_w | exact EqE_w | exact EqV_ptr | exact EqE_ptr | exact EqV_msl | exact EqE_msl | exact EqV_agg | exact EqE_agg | exact EqV_fn | exact EqE_fn | exact EqV_gd | exact EqE_gd | refine gM_splitN ?_ ?_ | refine gM_split ?_ ?_ |  refine condM_splitDN ?_ ?_ | refine condM_splitD ?_ ?_ | refine condM_splitN ?_ ?_ | refine condM_split ?_ ?_ | refine condM_any ?_ ?_ | intro _) | (simp [*]))
              all_goals try first | exact inI64 (by omega) (by omega) | omega
              all_goals (refine loopK_normal _ _ _ _ _ (j + 1) _ ?_ (by first | omega | (dsimp only; omega) | (simp; omega)) ?_; (· omega); (refine le_gen [] ?_ ?_ <;> first | trivial | (simp [*, (show lnK n (k : Int) (nth be k).lines Q (j + 1) = _ from kk), Nat.add_mul]; done)))
            · rw [lineQ_neg _ _ _ hp] at ks
              have kk := keep ks
              clear ks
              have hL : R.1.length < 10000 := by omega
              have kop := keep (opK_bd R.1 (-a) (show ∀ j, j < R.1.length → 0 ≤ (nth R.1 j).op ∧ (nth R.1 j).op ≤ 1000000000 from kb2) (by omega))
              repeat' (first | (with_reducible first | refine awp_regionJ (id := 13) 3 Tryz.func123 (by kernel_rfl) rfl (by decide) rfl ?_ | refine awp_seq ?_ | refine awp_blockS ?_ | refine awp_blockC ?_ | refine awp_blockR ?_ | refine awp_skip ?_ | refine awp_ret ?_ | refine awp_exit ?_ | refine awp_region ?_ | refine awp_regionD (id := 23) 14 mixed (by decide +kernel) ?_ | refine awp_regionD (id := 24) 11 mixed (by decide +kernel) ?_ | refine awp_condM ?_ | refine And.intro ?_ ?_ | apply gQ_merge | apply gE_merge | exact EqV_w | exact EqE_w | exact EqV_ptr | exact EqE_ptr | exact EqV_msl | exact EqE_msl | exact EqV_agg | exact EqE_agg | exact EqV_fn | exact EqE_fn | exact EqV_gd | exact EqE_gd | refine gM_splitN ?_ ?_ | refine gM_split ?_ ?_ |  refine condM_splitDN ?_ ?_ | refine condM_splitD ?_ ?_ | refine condM_splitN ?_ ?_ | refine condM_split ?_ ?_ | refine condM_any ?_ ?_ | intro _) | (simp [*, hj2, hq, cLine, ham]))
              all_goals try first | exact inI64 (by omega) (by omega) | omega
              refine inlM_intro (Nat.le_of_ble_eq_true (by kernel_rfl)) (by simp) rfl ?_
              repeat' (first | (with_reducible first | refine awp_seq ?_ | refine awp_blockS ?_ | refine awp_blockC ?_ | refine awp_blockR ?_ | refine awp_skip ?_ | refine awp_ret ?_ | refine awp_exit ?_ | refine awp_region ?_ | refine awp_regionS (id := 9) [0, 1, 2, 3, 4, 5, 6, 7, 8, 9, 10, 11, 12, 13, 14, 15, 16, 17, 18, 19] [20, 21] [[], [], [], [], [], [], [], [], [], [], [], [], [], [], [], [.fld 0 188 0], [.fld 0 188 0], [.fld 0 188 0], [], []] [[.fld 0 188 0], []] mixed (by decide +kernel) ?_ | refine awp_condM ?_ | refine And.intro ?_ ?_ | apply gQ_merge | apply gE_merge | exact EqV_w | exact EqE_w | exact EqV_ptr | exact EqE_ptr | exact EqV_msl | exact EqE_msl | exact EqV_agg | exact EqE_agg | exact EqV_fn | exact EqE_fn | exact EqV_gd | exact EqE_gd | refine gM_splitN ?_ ?_ | refine gM_split ?_ ?_ |  refine condM_splitDN ?_ ?_ | refine condM_splitD ?_ ?_ | refine condM_splitN ?_ ?_ | refine condM_split ?_ ?_ | refine condM_any ?_ ?_ | intro _) | (simp [*, hp]))
              all_goals try first | exact inI64 (by omega) (by omega) | omega
              refine awp_for3 (fun (i : Nat) => i ≤ R.1.length) [0, 46] (fun (i : Nat) => [(47, .w false false (.int .i64 i)), (7, .w false false (.int .i64 (opK R.1 (-a) i).2))]) [3] (fun (i : Nat) => [(4, tA (opK R.1 (-a) i).1)]) (fun (i : Nat) => R.1.length - i) (fun (_u : Unit) => True) [0] (fun (_u : Unit) => [(7, .w false false (.int .i64 (opK R.1 (-a) R.1.length).2))]) [3] (fun (_u : Unit) => [(4, tA (opK R.1 (-a) R.1.length).1)]) (0) (Nat.zero_le _) (by simp) (by simp) (fun i hk => ?_) (fun _u hf => ?_)
              · by_cases hi : i < R.1.length
                · obtain ⟨o1, o2, o3, o4, _⟩ := (show ∀ k, k ≤ R.1.length → OpB R.1 (-a) k from kop) i hk
                  obtain ⟨p1, p2⟩ := o2 i hi
                  have ke1 := keep (opK_succ1 R.1 (-a) i)
                  have ke2 := keep (opK_succ2 R.1 (-a) i)
                  clear kop o2
                  generalize (opK R.1 (-a) i).2 = lf at *
                  generalize (opK R.1 (-a) i).1 = it at *
                  have hi2 : i < it.length := by omega
                  have g1 := tA_1 it i hi2
                  have g2 := fun v => tA_set1 it i v hi2
                  repeat' (first | (with_reducible first | refine awp_seq ?_ | refine awp_blockS ?_ | refine awp_blockC ?_ | refine awp_blockR ?_ | refine awp_skip ?_ | refine awp_ret ?_ | refine awp_exit ?_ | refine awp_region ?_ | refine awp_regionS (id := 9) [0, 1, 2, 3, 4, 5, 6, 7, 8, 9, 10, 11, 12, 13, 14, 15, 16, 17, 18, 19] [20, 21] [[], [], [], [], [], [], [], [], [], [], [], [], [], [], [], [.fld 0 188 0], [.fld 0 188 0], [.fld 0 188 0], [], []] [[.fld 0 188 0], []] mixed (by decide +kernel) ?_ | refine awp_condM ?_ | refine And.intro ?_ ?_ | apply gQ_merge | apply gE_merge | exact EqV_w | exact EqE_w | exact EqV_ptr | exact EqE_ptr | exact EqV_msl | exact EqE_msl | exact EqV_agg | exact EqE_agg | exact EqV_fn | exact EqE_fn | exact EqV_gd | exact EqE_gd | refine gM_splitN ?_ ?_ | refine gM_split ?_ ?_ |  refine condM_splitDN ?_ ?_ | refine condM_splitD ?_ ?_ | refine condM_splitN ?_ ?_ | refine condM_split ?_ ?_ | refine condM_any ?_ ?_ | intro _) | (simp [*, hi, hi2, ite_min, g1, g2, o1]))
                  all_goals try first | exact inI64 (by omega) (by omega) | omega
                  all_goals (refine loopK_normal _ _ _ _ _ (i + 1) _ ?_ (by first | omega | (dsimp only; omega) | (simp; omega)) ?_; (· omega); (refine le_of ?_ ?_ <;> first | trivial | (simp [*, (show (opK R.1 (-a) (i + 1)).1 = _ from ke1), (show (opK R.1 (-a) (i + 1)).2 = _ from ke2)]; done)))
                · have hke : i = R.1.length := by omega
                  subst hke
                  clear kop
                  repeat' (first | (with_reducible first | refine awp_seq ?_ | refine awp_blockS ?_ | refine awp_blockC ?_ | refine awp_blockR ?_ | refine awp_skip ?_ | refine awp_ret ?_ | refine awp_exit ?_ | refine awp_region ?_ | refine awp_regionS (id := 9) [0, 1, 2, 3, 4, 5, 6, 7, 8, 9, 10, 11, 12, 13, 14, 15, 16, 17, 18, 19] [20, 21] [[], [], [], [], [], [], [], [], [], [], [], [], [], [], [], [.fld 0 188 0], [.fld 0 188 0], [.fld 0 188 0], [], []] [[.fld 0 188 0], []] mixed (by decide +kernel) ?_ | refine awp_condM ?_ | refine And.intro ?_ ?_ | apply gQ_merge | apply gE_merge | exact EqV_w | exact EqE_w | exact EqV_ptr | exact EqE_ptr | exact EqV_msl | exact EqE_msl | exact EqV_agg | exact EqE_agg | exact EqV_fn | exact EqE_fn | exact EqV_gd | exact EqE_gd | refine gM_splitN ?_ ?_ | refine gM_split ?_ ?_ |  refine condM_splitDN ?_ ?_ | refine condM_splitD ?_ ?_ | refine condM_splitN ?_ ?_ | refine condM_split ?_ ?_ | refine condM_any ?_ ?_ | intro _) | (simp [*]))
                  all_goals (refine finW_intro () ?_ ?_; (· trivial); (refine le_of ?_ ?_ <;> first | trivial | (simp [*]; done)))
              · obtain ⟨o1, o2, o3, o4, _⟩ := (show ∀ k, k ≤ R.1.length → OpB R.1 (-a) k from kop) R.1.length (Nat.le_refl _)
                clear kop o2
                generalize (opK R.1 (-a) R.1.length).2 = lf at *
                generalize (opK R.1 (-a) R.1.length).1 = it at *
                repeat' (first | (with_reducible first | refine awp_seq ?_ | refine awp_blockS ?_ | refine awp_blockC ?_ | refine awp_blockR ?_ | refine awp_skip ?_ | refine awp_ret ?_ | refine awp_exit ?_ | refine awp_region ?_ | refine awp_regionS (id := 9) [0, 1, 2, 3, 4, 5, 6, 7, 8, 9, 10, 11, 12, 13, 14, 15, 16, 17, 18, 19] [20, 21] [[], [], [], [], [], [], [], [], [], [], [], [], [], [], [], [.fld 0 188 0], [.fld 0 188 0], [.fld 0 188 0], [], []] [[.fld 0 188 0], []] mixed (by decide +kernel) ?_ | refine awp_condM ?_ | refine And.intro ?_ ?_ | apply gQ_merge | apply gE_merge | exact EqV_w | exact EqE_w | exact EqV_ptr | exact EqE_ptr | exact EqV_msl | exact EqE_msl | exact EqV_agg | exact EqE_agg | exact EqV_fn | exact EqE_fn | exact EqV_gd | exact EqE_gd | refine gM_splitN ?_ ?_ | refine gM_split ?_ ?_ |  refine condM_splitDN ?_ ?_ | refine condM_splitD ?_ ?_ | refine condM_splitN ?_ ?_ | refine condM_split ?_ ?_ | refine condM_any ?_ ?_ | intro _) | (simp [*]))
                all_goals try first | exact inI64 (by omega) (by omega) | omega
                simp [RetA, resL]
                repeat' (first | (with_reducible first | refine awp_seq ?_ | refine awp_blockS ?_ | refine awp_blockC ?_ | refine awp_blockR ?_ | refine awp_skip ?_ | refine awp_ret ?_ | refine awp_exit ?_ | refine awp_region ?_ | refine awp_regionD (id := 23) 14 mixed (by decide +kernel) ?_ | refine awp_regionD (id := 24) 11 mixed (by decide +kernel) ?_ | refine awp_condM ?_ | refine And.intro ?_ ?_ | apply gQ_merge | apply gE_merge | exact EqV_w | exact EqE_w | exact EqV_ptr | exact EqE_ptr | exact EqV_msl | exact EqE_msl | exact EqV_agg | exact EqE_agg | exact EqV_fn | exact EqE_fn | exact EqV_gd | exact EqE_gd | refine gM_splitN ?_ ?_ | refine gM_split ?_ ?_ |  refine condM_splitDN ?_ ?_ | refine condM_splitD ?_ ?_ | refine condM_splitN ?_ ?_ | refine condM_split ?_ ?_ | refine condM_any ?_ ?_ | intro _) | (simp [*]))
                all_goals try first | exact inI64 (by omega) (by omega) | omega
                all_goals (refine loopK_normal _ _ _ _ _ (j + 1) _ ?_ (by first | omega | (dsimp only; omega) | (simp; omega)) ?_; (· omega); (refine le_gen [] ?_ ?_ <;> first | trivial | (simp [*, (show lnK n (k : Int) (nth be k).lines Q (j + 1) = _ from kk), o1]; done)))
          · have ks := keep (hn hq)
            clear hy hn
            repeat' (first | (with_reducible first | refine awp_seq ?_ | refine awp_blockS ?_ | refine awp_blockC ?_ | refine awp_blockR ?_ | refine awp_skip ?_ | refine awp_ret ?_ | refine awp_exit ?_ | refine awp_region ?_ | refine awp_regionD (id := 23) 14 mixed (by decide +kernel) ?_ | refine awp_regionD (id := 24) 11 mixed (by decide +kernel) ?_ | refine awp_condM ?_ | refine And.intro ?_ ?_ | apply gQ_merge | apply gE_merge | exact EqV_w | exact EqE_w | exact EqV_ptr | exact EqE_ptr | exact EqV_msl | exact EqE_msl | exact EqV_agg | exact EqE_agg | exact EqV_fn | exact EqE_fn | exact EqV_gd | exact EqE_gd | refine gM_splitN ?_ ?_ | refine gM_split ?_ ?_ |  refine condM_splitDN ?_ ?_ | refine condM_splitD ?_ ?_ | refine condM_splitN ?_ ?_ | refine condM_split ?_ ?_ | refine condM_any ?_ ?_ | intro _) | (simp [*, hj2, hq, cLine]))
            all_goals try first | exact inI64 (by omega) (by omega) | omega
            all_goals (refine loopK_normal _ _ _ _ _ (j + 1) _ ?_ (by first | omega | (dsimp only; omega) | (simp; omega)) ?_; (· omega); (refine le_gen [] ?_ ?_ <;> first | trivial | (simp [*, (show lnK n (k : Int) (nth be k).lines Q (j + 1) = _ from ks)]; done)))
        · have hke : j = (nth be k).lines.length := by omega
          subst hke
          repeat' (first | (with_reducible first | refine awp_seq ?_ | refine awp_blockS ?_ | refine awp_blockC ?_ | refine awp_blockR ?_ | refine awp_skip ?_ | refine awp_ret ?_ | refine awp_exit ?_ | refine awp_region ?_ | refine awp_regionD (id := 23) 14 mixed (by decide +kernel) ?_ | refine awp_regionD (id := 24) 11 mixed (by decide +kernel) ?_ | refine awp_condM ?_ | refine And.intro ?_ ?_ | apply gQ_merge | apply gE_merge | exact EqV_w | exact EqE_w | exact EqV_ptr | exact EqE_ptr | exact EqV_msl | exact EqE_msl | exact EqV_agg | exact EqE_agg | exact EqV_fn | exact EqE_fn | exact EqV_gd | exact EqE_gd | refine gM_splitN ?_ ?_ | refine gM_split ?_ ?_ |  refine condM_splitDN ?_ ?_ | refine condM_splitD ?_ ?_ | refine condM_splitN ?_ ?_ | refine condM_split ?_ ?_ | refine condM_any ?_ ?_ | intro _) | (simp [*]))
          all_goals (refine finW_intro () ?_ ?_; (· trivial); (refine le_gen [] ?_ ?_ <;> first | trivial | (simp [*]; done)))
      · have ks := keep (show enK n be (k + 1) = _ from kss)
        clear kss kl kla
        generalize lnK n (k : Int) (nth be k).lines Q (nth be k).lines.length = R at *
        repeat' (first | (with_reducible first | refine awp_seq ?_ | refine awp_blockS ?_ | refine awp_blockC ?_ | refine awp_blockR ?_ | refine awp_skip ?_ | refine awp_ret ?_ | refine awp_exit ?_ | refine awp_region ?_ | refine awp_regionD (id := 23) 14 mixed (by decide +kernel) ?_ | refine awp_regionD (id := 24) 11 mixed (by decide +kernel) ?_ | refine awp_condM ?_ | refine And.intro ?_ ?_ | apply gQ_merge | apply gE_merge | exact EqV_w | exact EqE_w | exact EqV_ptr | exact EqE_ptr | exact EqV_msl | exact EqE_msl | exact EqV_agg | exact EqE_agg | exact EqV_fn | exact EqE_fn | exact EqV_gd | exact EqE_gd | refine gM_splitN ?_ ?_ | refine gM_split ?_ ?_ |  refine condM_splitDN ?_ ?_ | refine condM_splitD ?_ ?_ | refine condM_splitN ?_ ?_ | refine condM_split ?_ ?_ | refine condM_any ?_ ?_ | intro _) | (simp [*]))
        all_goals try first | exact inI64 (by omega) (by omega) | omega
        all_goals (refine loopK_normal _ _ _ _ _ (k + 1) _ ?_ (by first | omega | (dsimp only; omega) | (simp; omega)) ?_; (· omega); (refine le_gen [] ?_ ?_ <;> first | trivial | (simp [*, (show enK n be (k + 1) = _ from ks)]; done)))
    · have hke : k = be.length := by omega
      subst hke
      clear kq kt
      repeat' (first | (with_reducible first | refine awp_seq ?_ | refine awp_blockS ?_ | refine awp_blockC ?_ | refine awp_blockR ?_ | refine awp_skip ?_ | refine awp_ret ?_ | refine awp_exit ?_ | refine awp_region ?_ | refine awp_regionD (id := 23) 14 mixed (by decide +kernel) ?_ | refine awp_regionD (id := 24) 11 mixed (by decide +kernel) ?_ | refine awp_condM ?_ | refine And.intro ?_ ?_ | apply gQ_merge | apply gE_merge | exact EqV_w | exact EqE_w | exact EqV_ptr | exact EqE_ptr | exact EqV_msl | exact EqE_msl | exact EqV_agg | exact EqE_agg | exact EqV_fn | exact EqE_fn | exact EqV_gd | exact EqE_gd | refine gM_splitN ?_ ?_ | refine gM_split ?_ ?_ |  refine condM_splitDN ?_ ?_ | refine condM_splitD ?_ ?_ | refine condM_splitN ?_ ?_ | refine condM_split ?_ ?_ | refine condM_any ?_ ?_ | intro _) | (simp [*]))
      all_goals (refine finW_intro () ?_ ?_; (· trivial); (refine le_gen [] ?_ ?_ <;> first | trivial | (simp [*]; done)))
  have hq := (show ∀ k, k ≤ be.length → QB (enK n be k) (12 * k) from kq) be.length (Nat.le_refl _)
  have kg := keep (grK_bd (enK n be be.length).1 hq.ops)
  have ko := keep hq.ops
  have hlq := hq.len
  clear kq kt hq
  generalize (enK n be be.length).2 = ov at *
  generalize (enK n be be.length).1 = L at *
  have hL : L.length < 10000 := by omega
  repeat' (first | (with_reducible first | refine awp_seq ?_ | refine awp_blockS ?_ | refine awp_blockC ?_ | refine awp_blockR ?_ | refine awp_skip ?_ | refine awp_ret ?_ | refine awp_exit ?_ | refine awp_region ?_ | refine awp_regionD (id := 23) 14 mixed (by decide +kernel) ?_ | refine awp_regionD (id := 24) 11 mixed (by decide +kernel) ?_ | refine awp_condM ?_ | refine And.intro ?_ ?_ | apply gQ_merge | apply gE_merge | exact EqV_w | exact EqE_w | exact EqV_ptr | exact EqE_ptr | exact EqV_msl | exact EqE_msl | exact EqV_agg | exact EqE_agg | exact EqV_fn | exact EqE_fn | exact EqV_gd | exact EqE_gd | refine gM_splitN ?_ ?_ | refine gM_split ?_ ?_ |  refine condM_splitDN ?_ ?_ | refine condM_splitD ?_ ?_ | refine condM_splitN ?_ ?_ | refine condM_split ?_ ?_ | refine condM_any ?_ ?_ | intro _) | (simp [*]))
  refine awp_for4 6 (fun (k : Nat) => k ≤ L.length) [57, 58] (fun (k : Nat) => [(59, .w false false (.int .i64 k)), (13, .msl 5 ((grK L k).length * 2) 2 0 (grK L k).length)]) [4] (fun (k : Nat) => [(5, tA (grK L k))]) (fun (k : Nat) => L.length - k) (fun (_u : Unit) => True) [] (fun (_u : Unit) => [(13, .msl 5 ((grK L L.length).length * 2) 2 0 (grK L L.length).length)]) [] (fun (_u : Unit) => [(5, tA (grK L L.length))]) (0) (Nat.zero_le _) (le_gen [] (by simp) (by simp)) (fun k hk => ?_) (fun _u hf => ?_)
  · by_cases hlt : k < L.length
    · obtain ⟨g1, g2, _⟩ := (show ∀ k, k ≤ L.length → GrB L k from kg) k hk
      have hx := (show ∀ j, j < L.length → 0 ≤ (nth L j).op ∧ (nth L j).op ≤ 1000000000 from ko) k hlt
      have e0 := grK_no L k
      have e1 := grK_add L k
      have e2 := grK_new L k
      have d0 := tA_drop L k hlt
      clear kg ko
      generalize grK L k = out at *
      by_cases h0 : (nth L k).op = 0
      · have ks := keep (e0 h0)
        clear e0 e1 e2
        repeat' (first | (with_reducible first | refine awp_seq ?_ | refine awp_blockS ?_ | refine awp_blockC ?_ | refine awp_blockR ?_ | refine awp_skip ?_ | refine awp_ret ?_ | refine awp_exit ?_ | refine awp_region ?_ | refine awp_regionD (id := 23) 14 mixed (by decide +kernel) ?_ | refine awp_regionD (id := 24) 11 mixed (by decide +kernel) ?_ | refine awp_condM ?_ | refine And.intro ?_ ?_ | apply gQ_merge | apply gE_merge | exact EqV_w | exact EqE_w | exact EqV_ptr | exact EqE_ptr | exact EqV_msl | exact EqE_msl | exact EqV_agg | exact EqE_agg | exact EqV_fn | exact EqE_fn | exact EqV_gd | exact EqE_gd | refine gM_splitN ?_ ?_ | refine gM_split ?_ ?_ |  refine condM_splitDN ?_ ?_ | refine condM_splitD ?_ ?_ | refine condM_splitN ?_ ?_ | refine condM_split ?_ ?_ | refine condM_any ?_ ?_ | intro _) | (simp [*, hlt, h0, d0]))
        all_goals try first | exact inI64 (by omega) (by omega) | omega
        all_goals (refine loopK_normal _ _ _ _ _ (k + 1) _ ?_ (by first | omega | (dsimp only; omega) | (simp; omega)) ?_; (· omega); (refine le_gen [] ?_ ?_ <;> first | trivial | (simp [*, (show grK L (k + 1) = _ from ks)]; done)))
      · by_cases h1 : 0 < out.length
        · have hIx : ((out.length : Nat) : Int) - 1 = ((out.length - 1 : Nat) : Int) := by omega
          have hb := g2 (out.length - 1) (by omega)
          have hI0 : (0 : Int) < ((out.length : Nat) : Int) := by omega
          have t0 := tA_0 out (out.length - 1) (by omega)
          have t1 := tA_1 out (out.length - 1) (by omega)
          have t2 := fun v => tA_set1 out (out.length - 1) v (by omega)
          have hlo : out.length - 1 < out.length := by omega
          by_cases h2 : (nth out (out.length - 1)).entry = (nth L k).entry
          · have ks := keep (e1 h0 h1 h2)
            clear e0 e1 e2 g2
            repeat' (first | (with_reducible first | refine awp_seq ?_ | refine awp_blockS ?_ | refine awp_blockC ?_ | refine awp_blockR ?_ | refine awp_skip ?_ | refine awp_ret ?_ | refine awp_exit ?_ | refine awp_region ?_ | refine awp_regionD (id := 23) 14 mixed (by decide +kernel) ?_ | refine awp_regionD (id := 24) 11 mixed (by decide +kernel) ?_ | refine awp_condM ?_ | refine And.intro ?_ ?_ | apply gQ_merge | apply gE_merge | exact EqV_w | exact EqE_w | exact EqV_ptr | exact EqE_ptr | exact EqV_msl | exact EqE_msl | exact EqV_agg | exact EqE_agg | exact EqV_fn | exact EqE_fn | exact EqV_gd | exact EqE_gd | refine gM_splitN ?_ ?_ | refine gM_split ?_ ?_ |  refine condM_splitDN ?_ ?_ | refine condM_splitD ?_ ?_ | refine condM_splitN ?_ ?_ | refine condM_split ?_ ?_ | refine condM_any ?_ ?_ | intro _) | (simp [*, hlt, h0, d0, hI0, hIx, t0, t1, t2, h2, hlo]))
            all_goals try first | exact inI64 (by omega) (by omega) | omega
            all_goals (refine loopK_normal _ _ _ _ _ (k + 1) _ ?_ (by first | omega | (dsimp only; omega) | (simp; omega)) ?_; (· omega); (refine le_gen [] ?_ ?_ <;> first | trivial | (simp [*, (show grK L (k + 1) = _ from ks), t2]; done)))
          · have ks := keep (e2 h0 (.inr h2))
            clear e0 e1 e2 g2
            repeat' (first | (with_reducible first | refine awp_seq ?_ | refine awp_blockS ?_ | refine awp_blockC ?_ | refine awp_blockR ?_ | refine awp_skip ?_ | refine awp_ret ?_ | refine awp_exit ?_ | refine awp_region ?_ | refine awp_regionD (id := 23) 14 mixed (by decide +kernel) ?_ | refine awp_regionD (id := 24) 11 mixed (by decide +kernel) ?_ | refine awp_condM ?_ | refine And.intro ?_ ?_ | apply gQ_merge | apply gE_merge | exact EqV_w | exact EqE_w | exact EqV_ptr | exact EqE_ptr | exact EqV_msl | exact EqE_msl | exact EqV_agg | exact EqE_agg | exact EqV_fn | exact EqE_fn | exact EqV_gd | exact EqE_gd | refine gM_splitN ?_ ?_ | refine gM_split ?_ ?_ |  refine condM_splitDN ?_ ?_ | refine condM_splitD ?_ ?_ | refine condM_splitN ?_ ?_ | refine condM_split ?_ ?_ | refine condM_any ?_ ?_ | intro _) | (simp [*, hlt, h0, d0, hI0, hIx, t0, t1, h2, hlo]))
            all_goals try first | exact inI64 (by omega) (by omega) | omega
            all_goals (refine loopK_normal _ _ _ _ _ (k + 1) _ ?_ (by first | omega | (dsimp only; omega) | (simp; omega)) ?_; (· omega); (refine le_gen [] ?_ ?_ <;> first | trivial | (simp [*, (show grK L (k + 1) = _ from ks), Nat.add_mul]; done)))
        · have hz : out.length = 0 := by omega
          have ks := keep (e2 h0 (.inl hz))
          have hI0 : ¬ (0 : Int) < ((out.length : Nat) : Int) := by omega
          clear e0 e1 e2 g2
          repeat' (first | (with_reducible first | refine awp_seq ?_ | refine awp_blockS ?_ | refine awp_blockC ?_ | refine awp_blockR ?_ | refine awp_skip ?_ | refine awp_ret ?_ | refine awp_exit ?_ | refine awp_region ?_ | refine awp_regionD (id := 23) 14 mixed (by decide +kernel) ?_ | refine awp_regionD (id := 24) 11 mixed (by decide +kernel) ?_ | refine awp_condM ?_ | refine And.intro ?_ ?_ | apply gQ_merge | apply gE_merge | exact EqV_w | exact EqE_w | exact EqV_ptr | exact EqE_ptr | exact EqV_msl | exact EqE_msl | exact EqV_agg | exact EqE_agg | exact EqV_fn | exact EqE_fn | exact EqV_gd | exact EqE_gd | refine gM_splitN ?_ ?_ | refine gM_split ?_ ?_ |  refine condM_splitDN ?_ ?_ | refine condM_splitD ?_ ?_ | refine condM_splitN ?_ ?_ | refine condM_split ?_ ?_ | refine condM_any ?_ ?_ | intro _) | (simp [*, hlt, h0, d0, hI0]))
          all_goals try first | exact inI64 (by omega) (by omega) | omega
          all_goals (refine loopK_normal _ _ _ _ _ (k + 1) _ ?_ (by first | omega | (dsimp only; omega) | (simp; omega)) ?_; (· omega); (refine le_gen [] ?_ ?_ <;> first | trivial | (simp [*, (show grK L (k + 1) = _ from ks), Nat.add_mul]; done)))
    · have hke : k = L.length := by omega
      subst hke
      clear kg ko
      repeat' (first | (with_reducible first | refine awp_seq ?_ | refine awp_blockS ?_ | refine awp_blockC ?_ | refine awp_blockR ?_ | refine awp_skip ?_ | refine awp_ret ?_ | refine awp_exit ?_ | refine awp_region ?_ | refine awp_regionD (id := 23) 14 mixed (by decide +kernel) ?_ | refine awp_regionD (id := 24) 11 mixed (by decide +kernel) ?_ | refine awp_condM ?_ | refine And.intro ?_ ?_ | apply gQ_merge | apply gE_merge | exact EqV_w | exact EqE_w | exact EqV_ptr | exact EqE_ptr | exact EqV_msl | exact EqE_msl | exact EqV_agg | exact EqE_agg | exact EqV_fn | exact EqE_fn | exact EqV_gd | exact EqE_gd | refine gM_splitN ?_ ?_ | refine gM_split ?_ ?_ |  refine condM_splitDN ?_ ?_ | refine condM_splitD ?_ ?_ | refine condM_splitN ?_ ?_ | refine condM_split ?_ ?_ | refine condM_any ?_ ?_ | intro _) | (simp [*]))
      all_goals (refine finW_intro () ?_ ?_; (· trivial); (refine le_gen [] ?_ ?_ <;> first | trivial | (simp [*]; done)))
  · clear kg ko
    repeat' (first | (with_reducible first | refine awp_seq ?_ | refine awp_blockS ?_ | refine awp_blockC ?_ | refine awp_blockR ?_ | refine awp_skip ?_ | refine awp_ret ?_ | refine awp_exit ?_ | refine awp_region ?_ | refine awp_regionD (id := 23) 14 mixed (by decide +kernel) ?_ | refine awp_regionD (id := 24) 11 mixed (by decide +kernel) ?_ | refine awp_condM ?_ | refine And.intro ?_ ?_ | apply gQ_merge | apply gE_merge | exact EqV_w | exact EqE_w | exact EqV_ptr | exact EqE_ptr | exact EqV_msl | exact EqE_msl | exact EqV_agg | exact EqE_agg | exact EqV_fn | exact EqE_fn | exact EqV_gd | exact EqE_gd | refine gM_splitN ?_ ?_ | refine gM_split ?_ ?_ |  refine condM_splitDN ?_ ?_ | refine condM_splitD ?_ ?_ | refine condM_splitN ?_ ?_ | refine condM_split ?_ ?_ | refine condM_any ?_ ?_ | intro _) | (simp [*]))
end Go.Proofs.YtdgbfbgnbgfmjaaGreatDoor
namespace Go.Proofs.YtdgbfbgnbgfmjaaGreatDoor
open Go Go.Fi
set_option maxRecDepth 20000
attribute [-simp] cEntries_drop2

theorem sameItems_c (l : List Item) (hl : l.length < 100000) : RealCall Tryz.prog 62 [.sl l.length (cItems l), .sl l.length (cItems l)] (.bool true) true := by
  refine realcall_intro Tryz.func62 (by kernel_rfl) rfl (Nat.le_of_ble_eq_true (by kernel_rfl)) ?_
  simp only [Tryz.results62, Tryz.ntmps62]
  repeat' (first | (with_reducible first | refine awp_seq ?_ | refine awp_blockS ?_ | refine awp_blockC ?_ | refine awp_blockR ?_ | refine awp_skip ?_ | refine awp_ret ?_ | refine awp_exit ?_ | refine awp_region ?_ | refine awp_regionD (id := 6) 9 mixed (by decide +kernel) ?_ | refine awp_condM ?_ | refine And.intro ?_ ?_ | apply gQ_merge | apply gE_merge | exact EqV_w | exact EqE_w | exact EqV_ptr | exact EqE_ptr | exact EqV_msl | exact EqE_msl | exact EqV_agg | exact EqE_agg | exact EqV_fn | exact EqE_fn | exact EqV_gd | exact EqE_gd | refine gM_splitN ?_ ?_ | refine gM_split ?_ ?_ |  refine condM_splitDN ?_ ?_ | refine condM_splitD ?_ ?_ | refine condM_splitN ?_ ?_ | refine condM_split ?_ ?_ | refine condM_any ?_ ?_ | intro _) | (simp [*]))
  refine awp_for3 (fun (k : Nat) => k ≤ l.length) [0, 1] (fun (k : Nat) => [(5, .w false false (.int .i64 k))]) [] (fun (k : Nat) => []) (fun (k : Nat) => l.length - k) (fun (_u : Unit) => True) [] (fun (_u : Unit) => []) [] (fun (_u : Unit) => []) (0) (Nat.zero_le _) (by simp) (by simp) (fun k hk => ?_) (fun _u hf => ?_)
  · by_cases hlt : k < l.length
    · repeat' (first | (with_reducible first | refine awp_seq ?_ | refine awp_blockS ?_ | refine awp_blockC ?_ | refine awp_blockR ?_ | refine awp_skip ?_ | refine awp_ret ?_ | refine awp_exit ?_ | refine awp_region ?_ | refine awp_regionD (id := 6) 9 mixed (by decide +kernel) ?_ | refine awp_condM ?_ | refine And.intro ?_ ?_ | apply gQ_merge | apply gE_merge | exact EqV_w | exact EqE_w | exact EqV_ptr | exact EqE_ptr | exact EqV_msl | exact EqE_msl | exact EqV_agg | exact EqE_agg | exact EqV_fn | exact EqE_fn | exact EqV_gd | exact EqE_gd | refine gM_splitN ?_ ?_ | refine gM_split ?_ ?_ |  refine condM_splitDN ?_ ?_ | refine condM_splitD ?_ ?_ | refine condM_splitN ?_ ?_ | refine condM_split ?_ ?_ | refine condM_any ?_ ?_ | intro _) | (simp [*, hlt, cItem]))
      all_goals first
        | exact inI64 (by omega) (by omega)
        | omega
        | (refine loopK_normal _ _ _ _ _ (k + 1) _ ?_ (by first | omega | (dsimp only; omega) | (simp; omega)) ?_; (· omega); (refine le_of ?_ ?_ <;> first | trivial | (simp [*]; done)))
        | skip
    · have hke : k = l.length := by omega
      subst hke
      repeat' (first | (with_reducible first | refine awp_seq ?_ | refine awp_blockS ?_ | refine awp_blockC ?_ | refine awp_blockR ?_ | refine awp_skip ?_ | refine awp_ret ?_ | refine awp_exit ?_ | refine awp_region ?_ | refine awp_regionD (id := 6) 9 mixed (by decide +kernel) ?_ | refine awp_condM ?_ | refine And.intro ?_ ?_ | apply gQ_merge | apply gE_merge | exact EqV_w | exact EqE_w | exact EqV_ptr | exact EqE_ptr | exact EqV_msl | exact EqE_msl | exact EqV_agg | exact EqE_agg | exact EqV_fn | exact EqE_fn | exact EqV_gd | exact EqE_gd | refine gM_splitN ?_ ?_ | refine gM_split ?_ ?_ |  refine condM_splitDN ?_ ?_ | refine condM_splitD ?_ ?_ | refine condM_splitN ?_ ?_ | refine condM_split ?_ ?_ | refine condM_any ?_ ?_ | intro _) | (simp [*]))
      all_goals (refine finW_intro () ?_ ?_; (· trivial); (refine le_of ?_ ?_ <;> first | trivial | (simp [*]; done)))
  · clear hf
    repeat' (first | (with_reducible first | refine awp_seq ?_ | refine awp_blockS ?_ | refine awp_blockC ?_ | refine awp_blockR ?_ | refine awp_skip ?_ | refine awp_ret ?_ | refine awp_exit ?_ | refine awp_region ?_ | refine awp_regionD (id := 6) 9 mixed (by decide +kernel) ?_ | refine awp_condM ?_ | refine And.intro ?_ ?_ | apply gQ_merge | apply gE_merge | exact EqV_w | exact EqE_w | exact EqV_ptr | exact EqE_ptr | exact EqV_msl | exact EqE_msl | exact EqV_agg | exact EqE_agg | exact EqV_fn | exact EqE_fn | exact EqV_gd | exact EqE_gd | refine gM_splitN ?_ ?_ | refine gM_split ?_ ?_ |  refine condM_splitDN ?_ ?_ | refine condM_splitD ?_ ?_ | refine condM_splitN ?_ ?_ | refine condM_split ?_ ?_ | refine condM_any ?_ ?_ | intro _) | (simp [*]))
set_option maxHeartbeats 16000000 in
theorem rOpenItems_c (b : Book) (ht : EntsTight b.entries) (n : ByteArray) : RealCall Tryz.prog 61 [.agg (cBook b), .str n] (.tup [.sl (openS n b.entries).length (cItems (openS n b.entries)), .int .i64 (enK n b.entries b.entries.length).2]) true := by
  have hlen := ht.len
  unfold openS
  obtain ⟨ba, be, bc⟩ := b
  unfold cBook at *
  dsimp only at *
  have kq := keep (fun k hk => (enK_bd n be ht k hk).1)
  have kt := keep ht
  clear ht
  refine realcall_intro Tryz.func61 (by kernel_rfl) rfl (Nat.le_of_ble_eq_true (by kernel_rfl)) ?_
  simp only [Tryz.results61, Tryz.ntmps61]
  repeat' (first | (with_reducible first | refine awp_seq ?_ | refine awp_blockS ?_ | refine awp_blockC ?_ | refine awp_blockR ?_ | refine awp_skip ?_ | refine awp_ret ?_ | refine awp_exit ?_ | refine awp_region ?_ | refine awp_regionD (id := 27) 18 mixed (by decide +kernel) ?_ | refine awp_regionD (id := 28) 19 mixed (by decide +kernel) ?_ | refine awp_condM ?_ | refine And.intro ?_ ?_ | apply gQ_merge | apply gE_merge | exact EqV_w | exact EqE_w | exact EqV_ptr | exact EqE_ptr | exact EqV_msl | exact EqE_msl | exact EqV_agg | exact EqE_agg | exact EqV_fn | exact EqE_fn | exact EqV_gd | exact EqE_gd | refine gM_splitN ?_ ?_ | refine gM_split ?_ ?_ |  refine condM_splitDN ?_ ?_ | refine condM_splitD ?_ ?_ | refine condM_splitN ?_ ?_ | refine condM_split ?_ ?_ | refine condM_any ?_ ?_ | intro _) | (simp [*]))
  refine awp_for4 2 (fun (k : Nat) => k ≤ be.length) [1, 2] (fun (k : Nat) => [(8, .w false false (.int .i64 k)), (6, .msl 1 ((enK n be k).1.length * 2) 2 0 (enK n be k).1.length), (7, .w false false (.int .i64 (enK n be k).2))]) [0] (fun (k : Nat) => [(1, tA (enK n be k).1)]) (fun (k : Nat) => be.length - k) (fun (_u : Unit) => True) [] (fun (_u : Unit) => [(6, .msl 1 ((enK n be be.length).1.length * 2) 2 0 (enK n be be.length).1.length), (7, .w false false (.int .i64 (enK n be be.length).2))]) [] (fun (_u : Unit) => [(1, tA (enK n be be.length).1)]) (0) (Nat.zero_le _) (le_gen [] (by simp) (by simp)) (fun k hk => ?_) (fun _u hf => ?_)
  · by_cases hlt : k < be.length
    · have hq := (show ∀ k, k ≤ be.length → QB (enK n be k) (12 * k) from kq) k hk
      have hll := (show EntsTight be from kt).lines k hlt
      have hla := (show EntsTight be from kt).amt k hlt
      have hs := enK_succ n be k
      clear kq kt
      generalize enK n be k = Q at *
      have kl := keep (fun j hj => (lnK_bd hq n k (nth be k).lines hla j hj).1)
      have kla := keep hla
      have kss := keep hs
      clear hla hs
      repeat' (first | (with_reducible first | refine awp_seq ?_ | refine awp_blockS ?_ | refine awp_blockC ?_ | refine awp_blockR ?_ | refine awp_skip ?_ | refine awp_ret ?_ | refine awp_exit ?_ | refine awp_region ?_ | refine awp_regionD (id := 27) 18 mixed (by decide +kernel) ?_ | refine awp_regionD (id := 28) 19 mixed (by decide +kernel) ?_ | refine awp_condM ?_ | refine And.intro ?_ ?_ | apply gQ_merge | apply gE_merge | exact EqV_w | exact EqE_w | exact EqV_ptr | exact EqE_ptr | exact EqV_msl | exact EqE_msl | exact EqV_agg | exact EqE_agg | exact EqV_fn | exact EqE_fn | exact EqV_gd | exact EqE_gd | refine gM_splitN ?_ ?_ | refine gM_split ?_ ?_ |  refine condM_splitDN ?_ ?_ | refine condM_splitD ?_ ?_ | refine condM_splitN ?_ ?_ | refine condM_split ?_ ?_ | refine condM_any ?_ ?_ | intro _) | (simp [*, hlt, cEntry]))
      all_goals try first | exact inI64 (by omega) (by omega) | omega
      refine awp_for4 2 (fun (j : Nat) => j ≤ (nth be k).lines.length) [1, 2, 8, 9] (fun (j : Nat) => [(10, .w false false (.int .i64 j)), (6, .msl 1 ((lnK n (k : Int) (nth be k).lines Q j).1.length * 2) 2 0 (lnK n (k : Int) (nth be k).lines Q j).1.length), (7, .w false false (.int .i64 (lnK n (k : Int) (nth be k).lines Q j).2))]) [0] (fun (j : Nat) => [(1, tA (lnK n (k : Int) (nth be k).lines Q j).1)]) (fun (j : Nat) => (nth be k).lines.length - j) (fun (_u : Unit) => True) [1, 2, 8] (fun (_u : Unit) => [(6, .msl 1 ((lnK n (k : Int) (nth be k).lines Q (nth be k).lines.length).1.length * 2) 2 0 (lnK n (k : Int) (nth be k).lines Q (nth be k).lines.length).1.length), (7, .w false false (.int .i64 (lnK n (k : Int) (nth be k).lines Q (nth be k).lines.length).2))]) [0] (fun (_u : Unit) => [(1, tA (lnK n (k : Int) (nth be k).lines Q (nth be k).lines.length).1)]) (0) (Nat.zero_le _) (le_gen [] (by simp) (by simp)) (fun j hk => ?_) (fun _u hf => ?_)
      · by_cases hj2 : j < (nth be k).lines.length
        · have hb := (show ∀ (j : Nat), j ≤ (nth be k).lines.length → QB (lnK n (k : Int) (nth be k).lines Q j) (12 * k + j) from kl) j hk
          have ha := (show ∀ (j : Nat), j < (nth be k).lines.length → -1000000000 ≤ (nth (nth be k).lines j).amt ∧ (nth (nth be k).lines j).amt ≤ 1000000000 from kla) j hj2
          have hy := lnK_yes n (k : Int) (nth be k).lines Q j
          have hn := lnK_no n (k : Int) (nth be k).lines Q j
          obtain ⟨b1, b2, b3, b4⟩ := hb
          have kb2 := keep b2
          clear kl kla hq b2
          generalize lnK n (k : Int) (nth be k).lines Q j = R at *
          by_cases hq : (nth (nth be k).lines j).acc = n
          · have ks := hy hq
            clear hy hn
            generalize ham : (nth (nth be k).lines j).amt = a at *
            by_cases hp : 0 < a
            · rw [lineQ_pos _ _ _ hp, Int.min_comm a R.2] at ks
              have kk := keep ks
              clear ks
              repeat' (first | (with_reducible first | refine awp_seq ?_ | refine awp_blockS ?_ | refine awp_blockC ?_ | refine awp_blockR ?_ | refine awp_skip ?_ | refine awp_ret ?_ | refine awp_exit ?_ | refine awp_region ?_ | refine awp_regionD (id := 27) 18 mixed (by decide +kernel) ?_ | refine awp_regionD (id := 28) 19 mixed (by decide +kernel) ?_ | refine awp_condM ?_ | refine And.intro ?_ ?_ | apply gQ_merge | apply gE_merge | exact EqV_w | exact EqE_w | exact EqV_ptr | exact EqE_ptr | exact EqV_msl | exact EqE_msl | exact EqV_agg | exact EqE_agg | exact EqV_fn | exact EqE_fn | exact EqV_gd | exact EqE_gd | refine gM_splitN ?_ ?_ | refine gM_split ?_ ?_ |  refine condM_splitDN ?_ ?_ | refine condM_splitD ?_ ?_ | refine condM_splitN ?_ ?_ | refine condM_split ?_ ?_ | refine condM_any ?_ ?_ | intro _) | (simp [*, hj2, hq, cLine, ham, hp, ite_min]))
              all_goals try first | exact inI64 (by omega) (by omega) | omega
              all_goals (refine loopK_normal _ _ _ _ _ (j + 1) _ ?_ (by first | omega | (dsimp only; omega) | (simp; omega)) ?_; (· omega); (refine le_gen [] ?_ ?_ <;> first | trivial | (simp [*, (show lnK n (k : Int) (nth be k).lines Q (j + 1) = _ from kk), Nat.add_mul]; done)))
            · rw [lineQ_neg _ _ _ hp] at ks
              have kk := keep ks
              clear ks
              have hL : R.1.length < 10000 := by omega
              have kop := keep (opK_bd R.1 (-a) (show ∀ j, j < R.1.length → 0 ≤ (nth R.1 j).op ∧ (nth R.1 j).op ≤ 1000000000 from kb2) (by omega))
              repeat' (first | (with_reducible first | refine awp_seq ?_ | refine awp_blockS ?_ | refine awp_blockC ?_ | refine awp_blockR ?_ | refine awp_skip ?_ | refine awp_ret ?_ | refine awp_exit ?_ | refine awp_region ?_ | refine awp_regionD (id := 27) 18 mixed (by decide +kernel) ?_ | refine awp_regionD (id := 28) 19 mixed (by decide +kernel) ?_ | refine awp_condM ?_ | refine And.intro ?_ ?_ | apply gQ_merge | apply gE_merge | exact EqV_w | exact EqE_w | exact EqV_ptr | exact EqE_ptr | exact EqV_msl | exact EqE_msl | exact EqV_agg | exact EqE_agg | exact EqV_fn | exact EqE_fn | exact EqV_gd | exact EqE_gd | refine gM_splitN ?_ ?_ | refine gM_split ?_ ?_ |  refine condM_splitDN ?_ ?_ | refine condM_splitD ?_ ?_ | refine condM_splitN ?_ ?_ | refine condM_split ?_ ?_ | refine condM_any ?_ ?_ | intro _) | (simp [*, hj2, hq, cLine, ham, hp]))
              all_goals try first | exact inI64 (by omega) (by omega) | omega
              refine awp_for4 2 (fun (i : Nat) => i ≤ R.1.length) [1, 2, 6, 7, 8, 9, 10] (fun (i : Nat) => [(13, .w false false (.int .i64 i)), (12, .w false false (.int .i64 (opK R.1 (-a) i).2))]) [0] (fun (i : Nat) => [(1, tA (opK R.1 (-a) i).1)]) (fun (i : Nat) => R.1.length - i) (fun (_u : Unit) => True) [1, 2, 6, 7, 8, 9, 10] (fun (_u : Unit) => [(12, .w false false (.int .i64 (opK R.1 (-a) R.1.length).2))]) [0] (fun (_u : Unit) => [(1, tA (opK R.1 (-a) R.1.length).1)]) (0) (Nat.zero_le _) (le_gen [] (by simp) (by simp)) (fun i hk => ?_) (fun _u hf => ?_)
              · by_cases hi : i < R.1.length
                · obtain ⟨o1, o2, o3, o4, _⟩ := (show ∀ k, k ≤ R.1.length → OpB R.1 (-a) k from kop) i hk
                  obtain ⟨p1, p2⟩ := o2 i hi
                  have ke1 := keep (opK_succ1 R.1 (-a) i)
                  have ke2 := keep (opK_succ2 R.1 (-a) i)
                  clear kop o2
                  generalize (opK R.1 (-a) i).2 = lf at *
                  generalize (opK R.1 (-a) i).1 = it at *
                  have hi2 : i < it.length := by omega
                  have g1 := tA_1 it i hi2
                  have g2 := fun v => tA_set1 it i v hi2
                  repeat' (first | (with_reducible first | refine awp_seq ?_ | refine awp_blockS ?_ | refine awp_blockC ?_ | refine awp_blockR ?_ | refine awp_skip ?_ | refine awp_ret ?_ | refine awp_exit ?_ | refine awp_region ?_ | refine awp_regionD (id := 27) 18 mixed (by decide +kernel) ?_ | refine awp_regionD (id := 28) 19 mixed (by decide +kernel) ?_ | refine awp_condM ?_ | refine And.intro ?_ ?_ | apply gQ_merge | apply gE_merge | exact EqV_w | exact EqE_w | exact EqV_ptr | exact EqE_ptr | exact EqV_msl | exact EqE_msl | exact EqV_agg | exact EqE_agg | exact EqV_fn | exact EqE_fn | exact EqV_gd | exact EqE_gd | refine gM_splitN ?_ ?_ | refine gM_split ?_ ?_ |  refine condM_splitDN ?_ ?_ | refine condM_splitD ?_ ?_ | refine condM_splitN ?_ ?_ | refine condM_split ?_ ?_ | refine condM_any ?_ ?_ | intro _) | (simp [*, hi, hi2, ite_min, g1, g2, o1]))
                  all_goals try first | exact inI64 (by omega) (by omega) | omega
                  all_goals (refine loopK_normal _ _ _ _ _ (i + 1) _ ?_ (by first | omega | (dsimp only; omega) | (simp; omega)) ?_; (· omega); (refine le_gen [] ?_ ?_ <;> first | trivial | (simp [*, (show (opK R.1 (-a) (i + 1)).1 = _ from ke1), (show (opK R.1 (-a) (i + 1)).2 = _ from ke2)]; done)))
                · have hke : i = R.1.length := by omega
                  subst hke
                  clear kop
                  repeat' (first | (with_reducible first | refine awp_seq ?_ | refine awp_blockS ?_ | refine awp_blockC ?_ | refine awp_blockR ?_ | refine awp_skip ?_ | refine awp_ret ?_ | refine awp_exit ?_ | refine awp_region ?_ | refine awp_regionD (id := 27) 18 mixed (by decide +kernel) ?_ | refine awp_regionD (id := 28) 19 mixed (by decide +kernel) ?_ | refine awp_condM ?_ | refine And.intro ?_ ?_ | apply gQ_merge | apply gE_merge | exact EqV_w | exact EqE_w | exact EqV_ptr | exact EqE_ptr | exact EqV_msl | exact EqE_msl | exact EqV_agg | exact EqE_agg | exact EqV_fn | exact EqE_fn | exact EqV_gd | exact EqE_gd | refine gM_splitN ?_ ?_ | refine gM_split ?_ ?_ |  refine condM_splitDN ?_ ?_ | refine condM_splitD ?_ ?_ | refine condM_splitN ?_ ?_ | refine condM_split ?_ ?_ | refine condM_any ?_ ?_ | intro _) | (simp [*]))
                  all_goals (refine finW_intro () ?_ ?_; (· trivial); (refine le_gen [] ?_ ?_ <;> first | trivial | (simp [*]; done)))
              · obtain ⟨o1, o2, o3, o4, _⟩ := (show ∀ k, k ≤ R.1.length → OpB R.1 (-a) k from kop) R.1.length (Nat.le_refl _)
                clear kop o2
                generalize (opK R.1 (-a) R.1.length).2 = lf at *
                generalize (opK R.1 (-a) R.1.length).1 = it at *
                repeat' (first | (with_reducible first | refine awp_seq ?_ | refine awp_blockS ?_ | refine awp_blockC ?_ | refine awp_blockR ?_ | refine awp_skip ?_ | refine awp_ret ?_ | refine awp_exit ?_ | refine awp_region ?_ | refine awp_regionD (id := 27) 18 mixed (by decide +kernel) ?_ | refine awp_regionD (id := 28) 19 mixed (by decide +kernel) ?_ | refine awp_condM ?_ | refine And.intro ?_ ?_ | apply gQ_merge | apply gE_merge | exact EqV_w | exact EqE_w | exact EqV_ptr | exact EqE_ptr | exact EqV_msl | exact EqE_msl | exact EqV_agg | exact EqE_agg | exact EqV_fn | exact EqE_fn | exact EqV_gd | exact EqE_gd | refine gM_splitN ?_ ?_ | refine gM_split ?_ ?_ |  refine condM_splitDN ?_ ?_ | refine condM_splitD ?_ ?_ | refine condM_splitN ?_ ?_ | refine condM_split ?_ ?_ | refine condM_any ?_ ?_ | intro _) | (simp [*]))
                all_goals try first | exact inI64 (by omega) (by omega) | omega
                all_goals (refine loopK_normal _ _ _ _ _ (j + 1) _ ?_ (by first | omega | (dsimp only; omega) | (simp; omega)) ?_; (· omega); (refine le_gen [] ?_ ?_ <;> first | trivial | (simp [*, (show lnK n (k : Int) (nth be k).lines Q (j + 1) = _ from kk), o1]; done)))
          · have ks := keep (hn hq)
            clear hy hn
            repeat' (first | (with_reducible first | refine awp_seq ?_ | refine awp_blockS ?_ | refine awp_blockC ?_ | refine awp_blockR ?_ | refine awp_skip ?_ | refine awp_ret ?_ | refine awp_exit ?_ | refine awp_region ?_ | refine awp_regionD (id := 27) 18 mixed (by decide +kernel) ?_ | refine awp_regionD (id := 28) 19 mixed (by decide +kernel) ?_ | refine awp_condM ?_ | refine And.intro ?_ ?_ | apply gQ_merge | apply gE_merge | exact EqV_w | exact EqE_w | exact EqV_ptr | exact EqE_ptr | exact EqV_msl | exact EqE_msl | exact EqV_agg | exact EqE_agg | exact EqV_fn | exact EqE_fn | exact EqV_gd | exact EqE_gd | refine gM_splitN ?_ ?_ | refine gM_split ?_ ?_ |  refine condM_splitDN ?_ ?_ | refine condM_splitD ?_ ?_ | refine condM_splitN ?_ ?_ | refine condM_split ?_ ?_ | refine condM_any ?_ ?_ | intro _) | (simp [*, hj2, hq, cLine]))
            all_goals try first | exact inI64 (by omega) (by omega) | omega
            all_goals (refine loopK_normal _ _ _ _ _ (j + 1) _ ?_ (by first | omega | (dsimp only; omega) | (simp; omega)) ?_; (· omega); (refine le_gen [] ?_ ?_ <;> first | trivial | (simp [*, (show lnK n (k : Int) (nth be k).lines Q (j + 1) = _ from ks)]; done)))
        · have hke : j = (nth be k).lines.length := by omega
          subst hke
          repeat' (first | (with_reducible first | refine awp_seq ?_ | refine awp_blockS ?_ | refine awp_blockC ?_ | refine awp_blockR ?_ | refine awp_skip ?_ | refine awp_ret ?_ | refine awp_exit ?_ | refine awp_region ?_ | refine awp_regionD (id := 27) 18 mixed (by decide +kernel) ?_ | refine awp_regionD (id := 28) 19 mixed (by decide +kernel) ?_ | refine awp_condM ?_ | refine And.intro ?_ ?_ | apply gQ_merge | apply gE_merge | exact EqV_w | exact EqE_w | exact EqV_ptr | exact EqE_ptr | exact EqV_msl | exact EqE_msl | exact EqV_agg | exact EqE_agg | exact EqV_fn | exact EqE_fn | exact EqV_gd | exact EqE_gd | refine gM_splitN ?_ ?_ | refine gM_split ?_ ?_ |  refine condM_splitDN ?_ ?_ | refine condM_splitD ?_ ?_ | refine condM_splitN ?_ ?_ | refine condM_split ?_ ?_ | refine condM_any ?_ ?_ | intro _) | (simp [*]))
          all_goals (refine finW_intro () ?_ ?_; (· trivial); (refine le_gen [] ?_ ?_ <;> first | trivial | (simp [*]; done)))
      · have ks := keep (show enK n be (k + 1) = _ from kss)
        clear kss kl kla
        generalize lnK n (k : Int) (nth be k).lines Q (nth be k).lines.length = R at *
        repeat' (first | (with_reducible first | refine awp_seq ?_ | refine awp_blockS ?_ | refine awp_blockC ?_ | refine awp_blockR ?_ | refine awp_skip ?_ | refine awp_ret ?_ | refine awp_exit ?_ | refine awp_region ?_ | refine awp_regionD (id := 27) 18 mixed (by decide +kernel) ?_ | refine awp_regionD (id := 28) 19 mixed (by decide +kernel) ?_ | refine awp_condM ?_ | refine And.intro ?_ ?_ | apply gQ_merge | apply gE_merge | exact EqV_w | exact EqE_w | exact EqV_ptr | exact EqE_ptr | exact EqV_msl | exact EqE_msl | exact EqV_agg | exact EqE_agg | exact EqV_fn | exact EqE_fn | exact EqV_gd | exact EqE_gd | refine gM_splitN ?_ ?_ | refine gM_split ?_ ?_ |  refine condM_splitDN ?_ ?_ | refine condM_splitD ?_ ?_ | refine condM_splitN ?_ ?_ | refine condM_split ?_ ?_ | refine condM_any ?_ ?_ | intro _) | (simp [*]))
        all_goals try first | exact inI64 (by omega) (by omega) | omega
        all_goals (refine loopK_normal _ _ _ _ _ (k + 1) _ ?_ (by first | omega | (dsimp only; omega) | (simp; omega)) ?_; (· omega); (refine le_gen [] ?_ ?_ <;> first | trivial | (simp [*, (show enK n be (k + 1) = _ from ks)]; done)))
    · have hke : k = be.length := by omega
      subst hke
      clear kq kt
      repeat' (first | (with_reducible first | refine awp_seq ?_ | refine awp_blockS ?_ | refine awp_blockC ?_ | refine awp_blockR ?_ | refine awp_skip ?_ | refine awp_ret ?_ | refine awp_exit ?_ | refine awp_region ?_ | refine awp_regionD (id := 27) 18 mixed (by decide +kernel) ?_ | refine awp_regionD (id := 28) 19 mixed (by decide +kernel) ?_ | refine awp_condM ?_ | refine And.intro ?_ ?_ | apply gQ_merge | apply gE_merge | exact EqV_w | exact EqE_w | exact EqV_ptr | exact EqE_ptr | exact EqV_msl | exact EqE_msl | exact EqV_agg | exact EqE_agg | exact EqV_fn | exact EqE_fn | exact EqV_gd | exact EqE_gd | refine gM_splitN ?_ ?_ | refine gM_split ?_ ?_ |  refine condM_splitDN ?_ ?_ | refine condM_splitD ?_ ?_ | refine condM_splitN ?_ ?_ | refine condM_split ?_ ?_ | refine condM_any ?_ ?_ | intro _) | (simp [*]))
      all_goals (refine finW_intro () ?_ ?_; (· trivial); (refine le_gen [] ?_ ?_ <;> first | trivial | (simp [*]; done)))
  have hq := (show ∀ k, k ≤ be.length → QB (enK n be k) (12 * k) from kq) be.length (Nat.le_refl _)
  have kg := keep (grK_bd (enK n be be.length).1 hq.ops)
  have ko := keep hq.ops
  have hlq := hq.len
  clear kq kt hq
  generalize (enK n be be.length).2 = ov at *
  generalize (enK n be be.length).1 = L at *
  have hL : L.length < 10000 := by omega
  repeat' (first | (with_reducible first | refine awp_seq ?_ | refine awp_blockS ?_ | refine awp_blockC ?_ | refine awp_blockR ?_ | refine awp_skip ?_ | refine awp_ret ?_ | refine awp_exit ?_ | refine awp_region ?_ | refine awp_regionD (id := 27) 18 mixed (by decide +kernel) ?_ | refine awp_regionD (id := 28) 19 mixed (by decide +kernel) ?_ | refine awp_condM ?_ | refine And.intro ?_ ?_ | apply gQ_merge | apply gE_merge | exact EqV_w | exact EqE_w | exact EqV_ptr | exact EqE_ptr | exact EqV_msl | exact EqE_msl | exact EqV_agg | exact EqE_agg | exact EqV_fn | exact EqE_fn | exact EqV_gd | exact EqE_gd | refine gM_splitN ?_ ?_ | refine gM_split ?_ ?_ |  refine condM_splitDN ?_ ?_ | refine condM_splitD ?_ ?_ | refine condM_splitN ?_ ?_ | refine condM_split ?_ ?_ | refine condM_any ?_ ?_ | intro _) | (simp [*]))
  refine awp_for4 3 (fun (k : Nat) => k ≤ L.length) [6, 7] (fun (k : Nat) => [(16, .w false false (.int .i64 k)), (15, .msl 2 ((grK L k).length * 2) 2 0 (grK L k).length)]) [1] (fun (k : Nat) => [(2, tA (grK L k))]) (fun (k : Nat) => L.length - k) (fun (_u : Unit) => True) [7] (fun (_u : Unit) => [(15, .msl 2 ((grK L L.length).length * 2) 2 0 (grK L L.length).length)]) [] (fun (_u : Unit) => [(2, tA (grK L L.length))]) (0) (Nat.zero_le _) (le_gen [] (by simp) (by simp)) (fun k hk => ?_) (fun _u hf => ?_)
  · by_cases hlt : k < L.length
    · obtain ⟨g1, g2, _⟩ := (show ∀ k, k ≤ L.length → GrB L k from kg) k hk
      have hx := (show ∀ j, j < L.length → 0 ≤ (nth L j).op ∧ (nth L j).op ≤ 1000000000 from ko) k hlt
      have e0 := grK_no L k
      have e1 := grK_add L k
      have e2 := grK_new L k
      have d0 := tA_drop L k hlt
      have u0 := tA_0 L k hlt
      have u1 := tA_1 L k hlt
      clear kg ko
      generalize grK L k = out at *
      by_cases h0 : (nth L k).op = 0
      · have ks := keep (e0 h0)
        clear e0 e1 e2
        repeat' (first | (with_reducible first | refine awp_seq ?_ | refine awp_blockS ?_ | refine awp_blockC ?_ | refine awp_blockR ?_ | refine awp_skip ?_ | refine awp_ret ?_ | refine awp_exit ?_ | refine awp_region ?_ | refine awp_regionD (id := 27) 18 mixed (by decide +kernel) ?_ | refine awp_regionD (id := 28) 19 mixed (by decide +kernel) ?_ | refine awp_condM ?_ | refine And.intro ?_ ?_ | apply gQ_merge | apply gE_merge | exact EqV_w | exact EqE_w | exact EqV_ptr | exact EqE_ptr | exact EqV_msl | exact EqE_msl | exact EqV_agg | exact EqE_agg | exact EqV_fn | exact EqE_fn | exact EqV_gd | exact EqE_gd | refine gM_splitN ?_ ?_ | refine gM_split ?_ ?_ |  refine condM_splitDN ?_ ?_ | refine condM_splitD ?_ ?_ | refine condM_splitN ?_ ?_ | refine condM_split ?_ ?_ | refine condM_any ?_ ?_ | intro _) | (simp [*, hlt, h0, u1]))
        all_goals try first | exact inI64 (by omega) (by omega) | omega
        all_goals (refine loopK_normal _ _ _ _ _ (k + 1) _ ?_ (by first | omega | (dsimp only; omega) | (simp; omega)) ?_; (· omega); (refine le_gen [] ?_ ?_ <;> first | trivial | (simp [*, (show grK L (k + 1) = _ from ks)]; done)))
      · by_cases h1 : 0 < out.length
        · have hIx : ((out.length : Nat) : Int) - 1 = ((out.length - 1 : Nat) : Int) := by omega
          have hb := g2 (out.length - 1) (by omega)
          have hI0 : (0 : Int) < ((out.length : Nat) : Int) := by omega
          have t0 := tA_0 out (out.length - 1) (by omega)
          have t1 := tA_1 out (out.length - 1) (by omega)
          have t2 := fun v => tA_set1 out (out.length - 1) v (by omega)
          have hlo : out.length - 1 < out.length := by omega
          by_cases h2 : (nth out (out.length - 1)).entry = (nth L k).entry
          · have ks := keep (e1 h0 h1 h2)
            clear e0 e1 e2 g2
            repeat' (first | (with_reducible first | refine awp_seq ?_ | refine awp_blockS ?_ | refine awp_blockC ?_ | refine awp_blockR ?_ | refine awp_skip ?_ | refine awp_ret ?_ | refine awp_exit ?_ | refine awp_region ?_ | refine awp_regionD (id := 27) 18 mixed (by decide +kernel) ?_ | refine awp_regionD (id := 28) 19 mixed (by decide +kernel) ?_ | refine awp_condM ?_ | refine And.intro ?_ ?_ | apply gQ_merge | apply gE_merge | exact EqV_w | exact EqE_w | exact EqV_ptr | exact EqE_ptr | exact EqV_msl | exact EqE_msl | exact EqV_agg | exact EqE_agg | exact EqV_fn | exact EqE_fn | exact EqV_gd | exact EqE_gd | refine gM_splitN ?_ ?_ | refine gM_split ?_ ?_ |  refine condM_splitDN ?_ ?_ | refine condM_splitD ?_ ?_ | refine condM_splitN ?_ ?_ | refine condM_split ?_ ?_ | refine condM_any ?_ ?_ | intro _) | (simp [*, hlt, h0, u0, u1, hI0, hIx, t0, t1, t2, h2, hlo]))
            all_goals try first | exact inI64 (by omega) (by omega) | omega
            all_goals (refine loopK_normal _ _ _ _ _ (k + 1) _ ?_ (by first | omega | (dsimp only; omega) | (simp; omega)) ?_; (· omega); (refine le_gen [] ?_ ?_ <;> first | trivial | (simp [*, (show grK L (k + 1) = _ from ks), t2]; done)))
          · have ks := keep (e2 h0 (.inr h2))
            clear e0 e1 e2 g2
            repeat' (first | (with_reducible first | refine awp_seq ?_ | refine awp_blockS ?_ | refine awp_blockC ?_ | refine awp_blockR ?_ | refine awp_skip ?_ | refine awp_ret ?_ | refine awp_exit ?_ | refine awp_region ?_ | refine awp_regionD (id := 27) 18 mixed (by decide +kernel) ?_ | refine awp_regionD (id := 28) 19 mixed (by decide +kernel) ?_ | refine awp_condM ?_ | refine And.intro ?_ ?_ | apply gQ_merge | apply gE_merge | exact EqV_w | exact EqE_w | exact EqV_ptr | exact EqE_ptr | exact EqV_msl | exact EqE_msl | exact EqV_agg | exact EqE_agg | exact EqV_fn | exact EqE_fn | exact EqV_gd | exact EqE_gd | refine gM_splitN ?_ ?_ | refine gM_split ?_ ?_ |  refine condM_splitDN ?_ ?_ | refine condM_splitD ?_ ?_ | refine condM_splitN ?_ ?_ | refine condM_split ?_ ?_ | refine condM_any ?_ ?_ | intro _) | (simp [*, hlt, h0, d0, u0, u1, hI0, hIx, t0, t1, h2, hlo]))
            all_goals try first | exact inI64 (by omega) (by omega) | omega
            all_goals (refine loopK_normal _ _ _ _ _ (k + 1) _ ?_ (by first | omega | (dsimp only; omega) | (simp; omega)) ?_; (· omega); (refine le_gen [] ?_ ?_ <;> first | trivial | (simp [*, (show grK L (k + 1) = _ from ks), Nat.add_mul]; done)))
        · have hz : out.length = 0 := by omega
          have ks := keep (e2 h0 (.inl hz))
          have hI0 : ¬ (0 : Int) < ((out.length : Nat) : Int) := by omega
          clear e0 e1 e2 g2
          repeat' (first | (with_reducible first | refine awp_seq ?_ | refine awp_blockS ?_ | refine awp_blockC ?_ | refine awp_blockR ?_ | refine awp_skip ?_ | refine awp_ret ?_ | refine awp_exit ?_ | refine awp_region ?_ | refine awp_regionD (id := 27) 18 mixed (by decide +kernel) ?_ | refine awp_regionD (id := 28) 19 mixed (by decide +kernel) ?_ | refine awp_condM ?_ | refine And.intro ?_ ?_ | apply gQ_merge | apply gE_merge | exact EqV_w | exact EqE_w | exact EqV_ptr | exact EqE_ptr | exact EqV_msl | exact EqE_msl | exact EqV_agg | exact EqE_agg | exact EqV_fn | exact EqE_fn | exact EqV_gd | exact EqE_gd | refine gM_splitN ?_ ?_ | refine gM_split ?_ ?_ |  refine condM_splitDN ?_ ?_ | refine condM_splitD ?_ ?_ | refine condM_splitN ?_ ?_ | refine condM_split ?_ ?_ | refine condM_any ?_ ?_ | intro _) | (simp [*, hlt, h0, d0, u0, u1, hI0]))
          all_goals try first | exact inI64 (by omega) (by omega) | omega
          all_goals (refine loopK_normal _ _ _ _ _ (k + 1) _ ?_ (by first | omega | (dsimp only; omega) | (simp; omega)) ?_; (· omega); (refine le_gen [] ?_ ?_ <;> first | trivial | (simp [*, (show grK L (k + 1) = _ from ks), Nat.add_mul]; done)))
    · have hke : k = L.length := by omega
      subst hke
      clear kg ko
      repeat' (first | (with_reducible first | refine awp_seq ?_ | refine awp_blockS ?_ | refine awp_blockC ?_ | refine awp_blockR ?_ | refine awp_skip ?_ | refine awp_ret ?_ | refine awp_exit ?_ | refine awp_region ?_ | refine awp_regionD (id := 27) 18 mixed (by decide +kernel) ?_ | refine awp_regionD (id := 28) 19 mixed (by decide +kernel) ?_ | refine awp_condM ?_ | refine And.intro ?_ ?_ | apply gQ_merge | apply gE_merge | exact EqV_w | exact EqE_w | exact EqV_ptr | exact EqE_ptr | exact EqV_msl | exact EqE_msl | exact EqV_agg | exact EqE_agg | exact EqV_fn | exact EqE_fn | exact EqV_gd | exact EqE_gd | refine gM_splitN ?_ ?_ | refine gM_split ?_ ?_ |  refine condM_splitDN ?_ ?_ | refine condM_splitD ?_ ?_ | refine condM_splitN ?_ ?_ | refine condM_split ?_ ?_ | refine condM_any ?_ ?_ | intro _) | (simp [*]))
      all_goals (refine finW_intro () ?_ ?_; (· trivial); (refine le_gen [] ?_ ?_ <;> first | trivial | (simp [*]; done)))
  · clear kg ko
    repeat' (first | (with_reducible first | refine awp_seq ?_ | refine awp_blockS ?_ | refine awp_blockC ?_ | refine awp_blockR ?_ | refine awp_skip ?_ | refine awp_ret ?_ | refine awp_exit ?_ | refine awp_region ?_ | refine awp_regionD (id := 27) 18 mixed (by decide +kernel) ?_ | refine awp_regionD (id := 28) 19 mixed (by decide +kernel) ?_ | refine awp_condM ?_ | refine And.intro ?_ ?_ | apply gQ_merge | apply gE_merge | exact EqV_w | exact EqE_w | exact EqV_ptr | exact EqE_ptr | exact EqV_msl | exact EqE_msl | exact EqV_agg | exact EqE_agg | exact EqV_fn | exact EqE_fn | exact EqV_gd | exact EqE_gd | refine gM_splitN ?_ ?_ | refine gM_split ?_ ?_ |  refine condM_splitDN ?_ ?_ | refine condM_splitD ?_ ?_ | refine condM_splitN ?_ ?_ | refine condM_split ?_ ?_ | refine condM_any ?_ ?_ | intro _) | (simp [*]))
end Go.Proofs.YtdgbfbgnbgfmjaaGreatDoor
