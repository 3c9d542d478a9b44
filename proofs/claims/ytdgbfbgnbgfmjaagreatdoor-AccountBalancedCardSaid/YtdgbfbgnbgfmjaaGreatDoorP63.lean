/- Contracts of functions for this claim: lemmas alone. -/
import Derived.Test.YtdgbfbgnbgfmjaaGreatDoorP60
import Derived.Test.YtdgbfbgnbgfmjaaGreatDoorP29
set_option linter.unusedSimpArgs false
set_option linter.unusedVariables false
namespace Go.Proofs.YtdgbfbgnbgfmjaaGreatDoor
open Go Go.Fi
set_option maxRecDepth 20000

/-! ### trips: the plain law -/
def sharesN (r : Rule) : List Nat := [r.s0.toNat, r.s1.toNat, r.s2.toNat]
def partsS (r : Rule) (f : Int) : List Int := splitS f.toNat (sharesN r)
@[simp] theorem partsS_len (r : Rule) (f : Int) : (partsS r f).length = 3 := by unfold partsS; rw [splitS_len]; rfl
structure SharesOk (r : Rule) : Prop where
  b0 : 0 ≤ r.s0 ∧ r.s0 ≤ 1000000
  b1 : 0 ≤ r.s1 ∧ r.s1 ≤ 1000000
  b2 : 0 ≤ r.s2 ∧ r.s2 ≤ 1000000
  pos : 0 < r.s0 + r.s1 + r.s2
theorem SharesOk.sum {r : Rule} (h : SharesOk r) : 0 < sumN (sharesN r) := by
  obtain ⟨h0, h1, h2, h3⟩ := h
  show 0 < r.s0.toNat + (r.s1.toNat + (r.s2.toNat + 0))
  omega
theorem SharesOk.toI {r : Rule} (h : SharesOk r) : toI (sharesN r) = sharesOf r := by
  obtain ⟨h0, h1, h2, h3⟩ := h
  show [((r.s0.toNat : Nat) : Int), ((r.s1.toNat : Nat) : Int), ((r.s2.toNat : Nat) : Int)] = [r.s0, r.s1, r.s2]
  rw [Int.toNat_of_nonneg h0.1, Int.toNat_of_nonneg h1.1, Int.toNat_of_nonneg h2.1]
theorem SharesOk.le {r : Rule} (h : SharesOk r) : ∀ k, k < (sharesN r).length → nth (sharesN r) k ≤ 1000000 := by
  obtain ⟨h0, h1, h2, h3⟩ := h
  intro k hk
  have hk3 : k < 3 := hk
  match k, hk3 with
  | 0, _ => show r.s0.toNat ≤ 1000000; omega
  | 1, _ => show r.s1.toNat ≤ 1000000; omega
  | 2, _ => show r.s2.toNat ≤ 1000000; omega
theorem SharesOk.split {r : Rule} (h : SharesOk r) {f : Int} (h0 : 0 ≤ f) (h1 : f ≤ 1000000000) : SplitIn f.toNat (sharesN r) ∧ DivAll f.toNat (sharesN r) := by
  have hl := h.le
  refine ⟨⟨by show 3 ≤ 20; decide, h.sum, hl, by omega⟩, divAll_small _ _ h.sum (fun k hk => ?_)⟩
  have := Nat.mul_le_mul (show f.toNat ≤ 1000000000 by omega) (hl k hk)
  omega
structure TripOk (t : Trip) : Prop where
  date : 0 ≤ t.date ∧ t.date ≤ 100000
  note : nameB t.note = true
  fare : moneyOk t.fare
  tip : moneyOk t.tip
  voucher : moneyOk t.voucher
  le : t.voucher ≤ t.fare
/-! sums over lines -/
def sumW (w : ByteArray → Bool) : List Line → Int
  | [] => 0
  | y :: r => (if w y.acc = true then y.amt else 0) + sumW w r
@[simp] theorem sumW_nil (w : ByteArray → Bool) : sumW w [] = 0 := rfl
/-! refunds -/
def negL (l : List Line) : List Line := l.map fun y => ⟨y.acc, -y.amt⟩
@[simp] theorem negL_len (l : List Line) : (negL l).length = l.length := by simp [negL]
end Go.Proofs.YtdgbfbgnbgfmjaaGreatDoor
namespace Go.Proofs.YtdgbfbgnbgfmjaaGreatDoor
open Go Go.Fi
set_option maxRecDepth 20000

/-! ### the document's checks of rules, trips and complaints -/
def zeroK (l : List Int) : Nat → Bool
  | 0 => true
  | k + 1 => zeroK l k && decide (nth l k = 0)
@[simp] theorem zeroK_zero (l : List Int) : zeroK l 0 = true := rfl
end Go.Proofs.YtdgbfbgnbgfmjaaGreatDoor
namespace Go.Proofs.YtdgbfbgnbgfmjaaGreatDoor
open Go Go.Fi
set_option maxRecDepth 20000

/-! ### the document's split of an amount -/
end Go.Proofs.YtdgbfbgnbgfmjaaGreatDoor
namespace Go.Proofs.YtdgbfbgnbgfmjaaGreatDoor
open Go Go.Fi
set_option maxRecDepth 20000

/-! ### the document's entry of a trip -/
def nzK (l : List Line) : Nat → List Line
  | 0 => []
  | k + 1 => addL (nzK l k) (nth l k).acc (nth l k).amt
@[simp] theorem nzK_zero (l : List Line) : nzK l 0 = [] := rfl
theorem lA_1 (l : List Line) (k : Nat) (h : k < l.length) : nthA (lA l) (k * 2 + 1) = .w false false (.int .i64 (nth l k).amt) := by
  unfold lA; rw [nthA_map _ _ _ (by simp; omega), cLines_1 l k h]
end Go.Proofs.YtdgbfbgnbgfmjaaGreatDoor
namespace Go.Proofs.YtdgbfbgnbgfmjaaGreatDoor
open Go Go.Fi
set_option maxRecDepth 20000

/-! ### opposite entries -/
def negK (l : List Line) (k : Nat) : List Line := negL (l.take k) ++ l.drop k
@[simp] theorem negK_zero (l : List Line) : negK l 0 = l := by simp [negK, negL]
theorem negK_all (l : List Line) : negK l l.length = negL l := by simp [negK]
@[simp] theorem negK_len (l : List Line) (k : Nat) : (negK l k).length = l.length := by
  simp [negK, negL]; omega
theorem nth_negK (l : List Line) (k : Nat) (h : k < l.length) : nth (negK l k) k = nth l k := by
  unfold negK negL
  simp only [nth, List.getD_eq_getElem?_getD]
  rw [List.getElem?_append_right (by simp; omega)]
  simp [Nat.min_eq_left (Nat.le_of_lt h)]
theorem negK_succ (l : List Line) (k : Nat) (h : k < l.length) : negK l (k + 1) = (negK l k).set k ⟨(nth l k).acc, -(nth l k).amt⟩ := by
  unfold negK negL
  rw [take_succ_nth l k h, drop_nth l k h, List.map_append, List.set_append_right _ _ (by simp; omega)]
  simp [Nat.min_eq_left (Nat.le_of_lt h)]
theorem cLines_set1 (v : Int) : ∀ (l : List Line) (k : Nat), k < l.length → (cLines l).set (k * 2 + 1) (.int .i64 v) = cLines (l.set k ⟨(nth l k).acc, v⟩)
  | x :: r, 0, _ => rfl
  | x :: r, k + 1, h => by
    rw [List.set_cons_succ, show nth (x :: r) (k + 1) = nth r k from rfl]
    have ih := cLines_set1 v r k (by simpa using h)
    show (PV.str x.acc :: PV.int .i64 x.amt :: cLines r).set ((k + 1) * 2 + 1) (.int .i64 v) = PV.str x.acc :: PV.int .i64 x.amt :: cLines _
    rw [← ih, show (k + 1) * 2 + 1 = (k * 2 + 1) + 1 + 1 by omega, List.set_cons_succ, List.set_cons_succ]
theorem lA_set1 (l : List Line) (k : Nat) (v : Int) (h : k < l.length) : (lA l).set (k * 2 + 1) (.w false false (.int .i64 v)) = lA (l.set k ⟨(nth l k).acc, v⟩) := by
  unfold lA; rw [← cLines_set1 v l k h, List.map_set]
@[simp] theorem lA_frs : ∀ l : List Line, AV.frs.frsL (lA l) = true
  | [] => rfl
  | x :: l => by
    have ih := lA_frs l
    show (AV.frs (.w false false (.str x.acc)) && (AV.frs (.w false false (.int .i64 x.amt)) && AV.frs.frsL (lA l))) = true
    rw [ih]; rfl
@[simp] theorem lA_sh (n : Nat) (l : List Line) : AV.sh.shL n (lA l) = lA l := shL_map n false false _
@[simp] theorem lA_ones : ∀ l : List Line, ones (lA l) = true
  | [] => rfl
  | x :: l => by
    have ih := lA_ones l
    show (AV.one (.w false false (.str x.acc)) && (AV.one (.w false false (.int .i64 x.amt)) && ones (lA l))) = true
    rw [ih]; rfl
theorem cLines_lA (l : List Line) : (cLines l).map (AV.w false false) = lA l := rfl
theorem clone_mk (l : List Line) (h : l.length < 100000) : MkCall Tryz.prog 166 [.sl l.length (cLines l)] [lA l] (.msl 0 (l.length * 2) 2 0 l.length) := by
  refine mkcall_intro 0 [] Tryz.func166 (by kernel_rfl) rfl (Nat.le_of_ble_eq_true (by kernel_rfl)) (by simp) (by simp) ?_
  simp only [Tryz.results166, Tryz.ntmps166]
  refine awp_seq ?_
  refine awp_region ?_
  simp
  refine awp_seq ?_
  refine awp_seq ?_
  refine awp_nil (ow := false) (fl := false) (k := l.length) (cells := cLines l) Tryz.underlying38 ?_ ?_ ?_ ?_
  · simp
  · decide
  · decide
  intro b hb
  cases b with
  | true =>
    have hl : l = [] := List.eq_nil_of_length_eq_zero (hb rfl).1
    subst hl
    repeat' (first | (with_reducible first | refine awp_seq ?_ | refine awp_blockS ?_ | refine awp_blockC ?_ | refine awp_blockR ?_ | refine awp_skip ?_ | refine awp_ret ?_ | refine awp_exit ?_ | refine awp_region ?_ | refine awp_condM ?_ | refine And.intro ?_ ?_ | refine gE_splitN ?_ ?_ | refine gE_split ?_ ?_ | refine gQ_splitN ?_ ?_ | refine gQ_split ?_ ?_ | refine gM_splitN ?_ ?_ | refine gM_split ?_ ?_ | refine condM_splitDN ?_ ?_ | refine condM_splitD ?_ ?_ | refine condM_splitN ?_ ?_ | refine condM_split ?_ ?_ | refine condM_any ?_ ?_ | intro _) | (simp [*, cLines]))
  | false =>
    clear hb
    repeat' (first | (with_reducible first | refine awp_seq ?_ | refine awp_blockS ?_ | refine awp_blockC ?_ | refine awp_blockR ?_ | refine awp_skip ?_ | refine awp_ret ?_ | refine awp_exit ?_ | refine awp_region ?_ | refine awp_condM ?_ | refine And.intro ?_ ?_ | refine gE_splitN ?_ ?_ | refine gE_split ?_ ?_ | refine gQ_splitN ?_ ?_ | refine gQ_split ?_ ?_ | refine gM_splitN ?_ ?_ | refine gM_split ?_ ?_ | refine condM_splitDN ?_ ?_ | refine condM_splitD ?_ ?_ | refine condM_splitN ?_ ?_ | refine condM_split ?_ ?_ | refine condM_any ?_ ?_ | intro _) | (simp [*, cLines_lA]))
    all_goals try omega
theorem copied_mk (e : Entry) (h : e.lines.length < 100000) : MkCall Tryz.prog 131 [.agg (cEntry e)] [lA e.lines] (.agg [.w false false (.int .i64 e.date), .w false false (.str e.note), .msl 0 (e.lines.length * 2) 2 0 e.lines.length]) := by
  have c1 := clone_mk e.lines h
  unfold cEntry
  refine mkcall_intro 2 [] Tryz.func131 (by kernel_rfl) rfl (Nat.le_of_ble_eq_true (by kernel_rfl)) (by simp) (by simp) ?_
  simp only [Tryz.results131, Tryz.ntmps131]
  repeat' (first | (with_reducible first | refine awp_seq ?_ | refine awp_blockS ?_ | refine awp_blockC ?_ | refine awp_blockR ?_ | refine awp_skip ?_ | refine awp_ret ?_ | refine awp_exit ?_ | refine awp_region ?_ | refine awp_condM ?_ | refine And.intro ?_ ?_ | apply gQ_merge | apply gE_merge | exact EqV_w | exact EqE_w | exact EqV_ptr | exact EqE_ptr | exact EqV_msl | exact EqE_msl | exact EqV_agg | exact EqE_agg | exact EqV_fn | exact EqE_fn | exact EqV_gd | exact EqE_gd | refine gM_splitN ?_ ?_ | refine gM_split ?_ ?_ |  refine condM_splitDN ?_ ?_ | refine condM_splitD ?_ ?_ | refine condM_splitN ?_ ?_ | refine condM_split ?_ ?_ | refine condM_any ?_ ?_ | refine cwM (c1) ?_ | intro _) | (simp [*]))
end Go.Proofs.YtdgbfbgnbgfmjaaGreatDoor
namespace Go.Proofs.YtdgbfbgnbgfmjaaGreatDoor
open Go Go.Fi
set_option maxRecDepth 20000

/-! ### opposite, and refunds -/
set_option maxHeartbeats 4000000 in
theorem opposite_c (e : Entry) (hl : e.lines.length < 10000) (ha : ∀ k, k < e.lines.length → -1000000000 ≤ (nth e.lines k).amt ∧ (nth e.lines k).amt ≤ 1000000000) : RealCall Tryz.prog 122 [.agg (cEntry e)] (.agg (cEntry ⟨e.date, e.note, negL e.lines⟩)) true := by
  have c1 := copied_mk e (by omega)
  have hN := negK_all e.lines
  have hnl := negL_len e.lines
  obtain ⟨ed, en, el⟩ := e
  unfold cEntry at *
  dsimp only at *
  rw [← hN] at hnl ⊢
  clear hN
  have ka := keep ha
  clear ha
  refine realcall_intro Tryz.func122 (by kernel_rfl) rfl (Nat.le_of_ble_eq_true (by kernel_rfl)) ?_
  simp only [Tryz.results122, Tryz.ntmps122]
  repeat' (first | (with_reducible first | refine awp_seq ?_ | refine awp_blockS ?_ | refine awp_blockC ?_ | refine awp_blockR ?_ | refine awp_skip ?_ | refine awp_ret ?_ | refine awp_exit ?_ | refine awp_region ?_ | refine awp_regionD (id := 5) 12 mixed (by decide +kernel) ?_ | refine awp_condM ?_ | refine And.intro ?_ ?_ | apply gQ_merge | apply gE_merge | exact EqV_w | exact EqE_w | exact EqV_ptr | exact EqE_ptr | exact EqV_msl | exact EqE_msl | exact EqV_agg | exact EqE_agg | exact EqV_fn | exact EqE_fn | exact EqV_gd | exact EqE_gd | refine gM_splitN ?_ ?_ | refine gM_split ?_ ?_ |  refine condM_splitDN ?_ ?_ | refine condM_splitD ?_ ?_ | refine condM_splitN ?_ ?_ | refine condM_split ?_ ?_ | refine condM_any ?_ ?_ | refine cwM (c1) ?_ | intro _) | (simp [*]))
  refine awp_for3 (fun (k : Nat) => k ≤ el.length) [1, 2, 8] (fun (k : Nat) => [(9, .w false false (.int .i64 k))]) [0, 1] (fun (k : Nat) => [(2, lA (negK el k))]) (fun (k : Nat) => el.length - k) (fun (_u : Unit) => True) [1, 2] (fun (_u : Unit) => []) [0, 1] (fun (_u : Unit) => [(2, lA (negK el el.length))]) (0) (Nat.zero_le _) (by simp) (by simp) (fun k hk => ?_) (fun _u hf => ?_)
  · by_cases hlt : k < el.length
    · obtain ⟨a1, a2⟩ := (show ∀ k, k < el.length → -1000000000 ≤ (nth el k).amt ∧ (nth el k).amt ≤ 1000000000 from ka) k hlt
      have ks := negK_succ el k hlt
      have hnk := nth_negK el k hlt
      have hnl2 := negK_len el k
      clear ka c1 hnl
      generalize negK el k = L at *
      have g1 := lA_1 L k (by omega)
      have g2 := fun v => lA_set1 L k v (by omega)
      rw [hnk] at g1 g2
      have kk := keep ks
      clear ks
      have hltL : k < L.length := by omega
      repeat' (first | (with_reducible first | refine awp_seq ?_ | refine awp_blockS ?_ | refine awp_blockC ?_ | refine awp_blockR ?_ | refine awp_skip ?_ | refine awp_ret ?_ | refine awp_exit ?_ | refine awp_region ?_ | refine awp_regionD (id := 5) 12 mixed (by decide +kernel) ?_ | refine awp_condM ?_ | refine And.intro ?_ ?_ | apply gQ_merge | apply gE_merge | exact EqV_w | exact EqE_w | exact EqV_ptr | exact EqE_ptr | exact EqV_msl | exact EqE_msl | exact EqV_agg | exact EqE_agg | exact EqV_fn | exact EqE_fn | exact EqV_gd | exact EqE_gd | refine gM_splitN ?_ ?_ | refine gM_split ?_ ?_ |  refine condM_splitDN ?_ ?_ | refine condM_splitD ?_ ?_ | refine condM_splitN ?_ ?_ | refine condM_split ?_ ?_ | refine condM_any ?_ ?_ | intro _) | (simp [*, hlt, hltL, hnl2, g1, g2]))
      all_goals try first | exact inI64 (by omega) (by omega) | omega
      all_goals (refine loopK_normal _ _ _ _ _ (k + 1) _ ?_ (by first | omega | (dsimp only; omega) | (simp; omega)) ?_; (· omega); (refine le_of ?_ ?_ <;> first | trivial | (simp [*, (show negK el (k + 1) = _ from kk)]; done)))
    · have hke : k = el.length := by omega
      subst hke
      clear ka c1 hnl
      repeat' (first | (with_reducible first | refine awp_seq ?_ | refine awp_blockS ?_ | refine awp_blockC ?_ | refine awp_blockR ?_ | refine awp_skip ?_ | refine awp_ret ?_ | refine awp_exit ?_ | refine awp_region ?_ | refine awp_regionD (id := 5) 12 mixed (by decide +kernel) ?_ | refine awp_condM ?_ | refine And.intro ?_ ?_ | apply gQ_merge | apply gE_merge | exact EqV_w | exact EqE_w | exact EqV_ptr | exact EqE_ptr | exact EqV_msl | exact EqE_msl | exact EqV_agg | exact EqE_agg | exact EqV_fn | exact EqE_fn | exact EqV_gd | exact EqE_gd | refine gM_splitN ?_ ?_ | refine gM_split ?_ ?_ |  refine condM_splitDN ?_ ?_ | refine condM_splitD ?_ ?_ | refine condM_splitN ?_ ?_ | refine condM_split ?_ ?_ | refine condM_any ?_ ?_ | intro _) | (simp [*]))
      all_goals (refine finW_intro () ?_ ?_; (· trivial); (refine le_of ?_ ?_ <;> first | trivial | (simp [*]; done)))
  · clear ka c1
    have hnl2 := negK_len el el.length
    generalize negK el el.length = L at *
    repeat' (first | (with_reducible first | refine awp_seq ?_ | refine awp_blockS ?_ | refine awp_blockC ?_ | refine awp_blockR ?_ | refine awp_skip ?_ | refine awp_ret ?_ | refine awp_exit ?_ | refine awp_region ?_ | refine awp_regionD (id := 5) 12 mixed (by decide +kernel) ?_ | refine awp_condM ?_ | refine And.intro ?_ ?_ | apply gQ_merge | apply gE_merge | exact EqV_w | exact EqE_w | exact EqV_ptr | exact EqE_ptr | exact EqV_msl | exact EqE_msl | exact EqV_agg | exact EqE_agg | exact EqV_fn | exact EqE_fn | exact EqV_gd | exact EqE_gd | refine gM_splitN ?_ ?_ | refine gM_split ?_ ?_ |  refine condM_splitDN ?_ ?_ | refine condM_splitD ?_ ?_ | refine condM_splitN ?_ ?_ | refine condM_split ?_ ?_ | refine condM_any ?_ ?_ | intro _) | (simp [*, hnl2]))
end Go.Proofs.YtdgbfbgnbgfmjaaGreatDoor
namespace Go.Proofs.YtdgbfbgnbgfmjaaGreatDoor
open Go Go.Fi
set_option maxRecDepth 20000

/-! ### the document's reversed entries and refunds -/
def linesE (ls : List Line) : Int := if 12 < ls.length then 8 else if ls.any greatB = true then 2 else 0
structure RefundL (r : Rule) (n : Int) : Prop where
  len0 : ¬ (fareL r n 0 0 (partsS r n)).length = 0
  err : linesE (fareL r n 0 0 (partsS r n)) = 0
  much : ∀ d s, muchB ⟨d, s, fareL r n 0 0 (partsS r n)⟩ = false
end Go.Proofs.YtdgbfbgnbgfmjaaGreatDoor

