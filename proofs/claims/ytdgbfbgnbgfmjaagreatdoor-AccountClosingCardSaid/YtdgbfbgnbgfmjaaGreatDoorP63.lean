/- Contracts of functions for this claim: lemmas alone. -/
import Derived.Test.YtdgbfbgnbgfmjaaGreatDoorP60
import Derived.Test.YtdgbfbgnbgfmjaaGreatDoorP29
set_option linter.unusedSimpArgs false
set_option linter.unusedVariables false
namespace Go.Proofs.YtdgbfbgnbgfmjaaGreatDoor
open Go Go.Fi
set_option maxRecDepth 20000

/-! ### trips: the plain law -/
def sharesN (r : Rule) : List Nat := [r.s0.toNat, r.s1.toNat, r.s2.toNat]
def partsS (r : Rule) (f : Int) : List Int := splitS f.toNat (sharesN r)
@[simp] theorem partsS_len (r : Rule) (f : Int) : (partsS r f).length = 3 := by unfold partsS; rw [splitS_len]; rfl
structure SharesOk (r : Rule) : Prop where
  b0 : 0 ≤ r.s0 ∧ r.s0 ≤ 1000000
  b1 : 0 ≤ r.s1 ∧ r.s1 ≤ 1000000
  b2 : 0 ≤ r.s2 ∧ r.s2 ≤ 1000000
  pos : 0 < r.s0 + r.s1 + r.s2
theorem SharesOk.sum {r : Rule} (h : SharesOk r) : 0 < sumN (sharesN r) := by
  obtain ⟨h0, h1, h2, h3⟩ := h
  show 0 < r.s0.toNat + (r.s1.toNat + (r.s2.toNat + 0))
  omega
theorem SharesOk.toI {r : Rule} (h : SharesOk r) : toI (sharesN r) = sharesOf r := by
  obtain ⟨h0, h1, h2, h3⟩ := h
  show [((r.s0.toNat : Nat) : Int), ((r.s1.toNat : Nat) : Int), ((r.s2.toNat : Nat) : Int)] = [r.s0, r.s1, r.s2]
  rw [Int.toNat_of_nonneg h0.1, Int.toNat_of_nonneg h1.1, Int.toNat_of_nonneg h2.1]
theorem SharesOk.le {r : Rule} (h : SharesOk r) : ∀ k, k < (sharesN r).length → nth (sharesN r) k ≤ 1000000 := by
  obtain ⟨h0, h1, h2, h3⟩ := h
  intro k hk
  have hk3 : k < 3 := hk
  match k, hk3 with
  | 0, _ => show r.s0.toNat ≤ 1000000; omega
  | 1, _ => show r.s1.toNat ≤ 1000000; omega
  | 2, _ => show r.s2.toNat ≤ 1000000; omega
theorem SharesOk.split {r : Rule} (h : SharesOk r) {f : Int} (h0 : 0 ≤ f) (h1 : f ≤ 1000000000) : SplitIn f.toNat (sharesN r) ∧ DivAll f.toNat (sharesN r) := by
  have hl := h.le
  refine ⟨⟨by show 3 ≤ 20; decide, h.sum, hl, by omega⟩, divAll_small _ _ h.sum (fun k hk => ?_)⟩
  have := Nat.mul_le_mul (show f.toNat ≤ 1000000000 by omega) (hl k hk)
  omega
structure TripOk (t : Trip) : Prop where
  date : 0 ≤ t.date ∧ t.date ≤ 100000
  note : nameB t.note = true
  fare : moneyOk t.fare
  tip : moneyOk t.tip
  voucher : moneyOk t.voucher
  le : t.voucher ≤ t.fare
/-! sums over lines -/
def sumW (w : ByteArray → Bool) : List Line → Int
  | [] => 0
  | y :: r => (if w y.acc = true then y.amt else 0) + sumW w r
@[simp] theorem sumW_nil (w : ByteArray → Bool) : sumW w [] = 0 := rfl
/-! refunds -/
def negL (l : List Line) : List Line := l.map fun y => ⟨y.acc, -y.amt⟩
@[simp] theorem negL_len (l : List Line) : (negL l).length = l.length := by simp [negL]
end Go.Proofs.YtdgbfbgnbgfmjaaGreatDoor
namespace Go.Proofs.YtdgbfbgnbgfmjaaGreatDoor
open Go Go.Fi
set_option maxRecDepth 20000

/-! ### the document's checks of rules, trips and complaints -/
def zeroK (l : List Int) : Nat → Bool
  | 0 => true
  | k + 1 => zeroK l k && decide (nth l k = 0)
@[simp] theorem zeroK_zero (l : List Int) : zeroK l 0 = true := rfl
theorem tooMuch_c (e : Entry) (hl : e.lines.length < 100000) : RealCall Tryz.prog 115 [.agg (cEntry e)] (.bool (muchB e)) true := by
  have q1 : ∀ k, k < e.lines.length → greatB (nth e.lines k) = true → muchB e = true := fun k hk h => by
    unfold muchB
    rw [List.any_eq_true.2 ⟨nth e.lines k, by
      simp only [nth, List.getD_eq_getElem?_getD, List.getElem?_eq_getElem hk, Option.getD_some]
      exact List.getElem_mem hk, h⟩]
    rfl
  have q0 : (∀ k, k < e.lines.length → greatB (nth e.lines k) = false) → muchB e = decide (12 < (e.lines.length : Int)) := fun h => by
    unfold muchB
    have : e.lines.any greatB = false := by
      cases ha : e.lines.any greatB with
      | false => rfl
      | true =>
        obtain ⟨y, hy, hg⟩ := List.any_eq_true.1 ha
        obtain ⟨k, hk, rfl⟩ := mem_nth hy
        rw [h k hk] at hg; cases hg
    rw [this, Bool.false_or]
    exact decide_eq_decide.2 (by omega)
  generalize muchB e = R at *
  have k1 := keep q1
  have k0 := keep q0
  clear q1 q0
  obtain ⟨ed, en, el⟩ := e
  unfold cEntry
  dsimp only at *
  refine realcall_intro Tryz.func115 (by kernel_rfl) rfl (Nat.le_of_ble_eq_true (by kernel_rfl)) ?_
  simp only [Tryz.results115, Tryz.ntmps115]
  repeat' (first | (with_reducible first | refine awp_seq ?_ | refine awp_blockS ?_ | refine awp_blockC ?_ | refine awp_blockR ?_ | refine awp_skip ?_ | refine awp_ret ?_ | refine awp_exit ?_ | refine awp_region ?_ | refine awp_condM ?_ | refine And.intro ?_ ?_ | apply gQ_merge | apply gE_merge | exact EqV_w | exact EqE_w | exact EqV_ptr | exact EqE_ptr | exact EqV_msl | exact EqE_msl | exact EqV_agg | exact EqE_agg | exact EqV_fn | exact EqE_fn | exact EqV_gd | exact EqE_gd | refine gM_splitN ?_ ?_ | refine gM_split ?_ ?_ |  refine condM_splitDN ?_ ?_ | refine condM_splitD ?_ ?_ | refine condM_splitN ?_ ?_ | refine condM_split ?_ ?_ | refine condM_any ?_ ?_ | intro _) | (simp [*]))
  refine awp_for3 (fun (k : Nat) => k ≤ el.length ∧ (∀ j, j < k → greatB (nth el j) = false)) [1] (fun (k : Nat) => [(3, .w false false (.int .i64 k))]) [0] (fun (k : Nat) => []) (fun (k : Nat) => el.length - k) (fun (_u : Unit) => ∀ j, j < el.length → greatB (nth el j) = false) [1] (fun (_u : Unit) => []) [0] (fun (_u : Unit) => []) (0) ⟨Nat.zero_le _, fun j hj => absurd hj (Nat.not_lt_zero _)⟩ (by simp) (by simp) (fun k hk => ?_) (fun _u hf => ?_)
  · obtain ⟨hk, hj⟩ := hk
    have kj := keep hj
    clear hj
    by_cases hlt : k < el.length
    · have c1 := rSmall_c (nth el k).amt 1000000000 (by decide) (by decide)
      cases hb : smallB (nth el k).amt 1000000000 with
      | true =>
        rw [hb] at c1
        have kj2 : Keep (∀ j, j < k + 1 → greatB (nth el j) = false) := keep (fun j hj => by
          rcases Nat.lt_or_eq_of_le (Nat.le_of_lt_succ hj) with h | h
          · exact (show ∀ j, j < k → greatB (nth el j) = false from kj) j h
          · rw [h]; unfold greatB; rw [hb]; rfl)
        clear hb k1 k0
        repeat' (first | (with_reducible first | refine awp_seq ?_ | refine awp_blockS ?_ | refine awp_blockC ?_ | refine awp_blockR ?_ | refine awp_skip ?_ | refine awp_ret ?_ | refine awp_exit ?_ | refine awp_region ?_ | refine awp_condM ?_ | refine And.intro ?_ ?_ | apply gQ_merge | apply gE_merge | exact EqV_w | exact EqE_w | exact EqV_ptr | exact EqE_ptr | exact EqV_msl | exact EqE_msl | exact EqV_agg | exact EqE_agg | exact EqV_fn | exact EqE_fn | exact EqV_gd | exact EqE_gd | refine gM_splitN ?_ ?_ | refine gM_split ?_ ?_ |  refine condM_splitDN ?_ ?_ | refine condM_splitD ?_ ?_ | refine condM_splitN ?_ ?_ | refine condM_split ?_ ?_ | refine condM_any ?_ ?_ | refine cw (c1) ?_ | intro _) | (simp [*, hlt]) | (refine cw_eq (c1) ?_ ?_; (· (simp [*]; done))))
        all_goals try first | exact inI64 (by omega) (by omega) | omega
        all_goals (refine loopK_normal _ _ _ _ _ (k + 1) _ ?_ (by first | omega | (dsimp only; omega) | (simp; omega)) ?_; (· exact ⟨by omega, kj2⟩); (refine le_of ?_ ?_ <;> first | trivial | (simp [*]; done)))
      | false =>
        rw [hb] at c1
        have hR := (show ∀ k, k < el.length → greatB (nth el k) = true → R = true from k1) k hlt (by unfold greatB; rw [hb]; rfl)
        subst hR
        clear hb k1 k0
        repeat' (first | (with_reducible first | refine awp_seq ?_ | refine awp_blockS ?_ | refine awp_blockC ?_ | refine awp_blockR ?_ | refine awp_skip ?_ | refine awp_ret ?_ | refine awp_exit ?_ | refine awp_region ?_ | refine awp_condM ?_ | refine And.intro ?_ ?_ | apply gQ_merge | apply gE_merge | exact EqV_w | exact EqE_w | exact EqV_ptr | exact EqE_ptr | exact EqV_msl | exact EqE_msl | exact EqV_agg | exact EqE_agg | exact EqV_fn | exact EqE_fn | exact EqV_gd | exact EqE_gd | refine gM_splitN ?_ ?_ | refine gM_split ?_ ?_ |  refine condM_splitDN ?_ ?_ | refine condM_splitD ?_ ?_ | refine condM_splitN ?_ ?_ | refine condM_split ?_ ?_ | refine condM_any ?_ ?_ | refine cw (c1) ?_ | intro _) | (simp [*, hlt]) | (refine cw_eq (c1) ?_ ?_; (· (simp [*]; done))))
        all_goals try first | exact inI64 (by omega) (by omega) | omega
    · have hke : k = el.length := by omega
      subst hke
      clear k1 k0
      repeat' (first | (with_reducible first | refine awp_seq ?_ | refine awp_blockS ?_ | refine awp_blockC ?_ | refine awp_blockR ?_ | refine awp_skip ?_ | refine awp_ret ?_ | refine awp_exit ?_ | refine awp_region ?_ | refine awp_condM ?_ | refine And.intro ?_ ?_ | apply gQ_merge | apply gE_merge | exact EqV_w | exact EqE_w | exact EqV_ptr | exact EqE_ptr | exact EqV_msl | exact EqE_msl | exact EqV_agg | exact EqE_agg | exact EqV_fn | exact EqE_fn | exact EqV_gd | exact EqE_gd | refine gM_splitN ?_ ?_ | refine gM_split ?_ ?_ |  refine condM_splitDN ?_ ?_ | refine condM_splitD ?_ ?_ | refine condM_splitN ?_ ?_ | refine condM_split ?_ ?_ | refine condM_any ?_ ?_ | intro _) | (simp [*]))
      all_goals (refine finW_intro () ?_ ?_; (· exact kj); (refine le_of ?_ ?_ <;> first | trivial | (simp [*]; done)))
  · have hR := (show (∀ k, k < el.length → greatB (nth el k) = false) → R = decide (12 < (el.length : Int)) from k0) hf
    subst hR
    clear hf k1 k0
    repeat' (first | (with_reducible first | refine awp_seq ?_ | refine awp_blockS ?_ | refine awp_blockC ?_ | refine awp_blockR ?_ | refine awp_skip ?_ | refine awp_ret ?_ | refine awp_exit ?_ | refine awp_region ?_ | refine awp_condM ?_ | refine And.intro ?_ ?_ | apply gQ_merge | apply gE_merge | exact EqV_w | exact EqE_w | exact EqV_ptr | exact EqE_ptr | exact EqV_msl | exact EqE_msl | exact EqV_agg | exact EqE_agg | exact EqV_fn | exact EqE_fn | exact EqV_gd | exact EqE_gd | refine gM_splitN ?_ ?_ | refine gM_split ?_ ?_ |  refine condM_splitDN ?_ ?_ | refine condM_splitD ?_ ?_ | refine condM_splitN ?_ ?_ | refine condM_split ?_ ?_ | refine condM_any ?_ ?_ | intro _) | (simp [*]))
end Go.Proofs.YtdgbfbgnbgfmjaaGreatDoor
namespace Go.Proofs.YtdgbfbgnbgfmjaaGreatDoor
open Go Go.Fi
set_option maxRecDepth 20000

/-! ### the document's split of an amount -/
end Go.Proofs.YtdgbfbgnbgfmjaaGreatDoor
namespace Go.Proofs.YtdgbfbgnbgfmjaaGreatDoor
open Go Go.Fi
set_option maxRecDepth 20000

/-! ### the document's entry of a trip -/
def nzK (l : List Line) : Nat → List Line
  | 0 => []
  | k + 1 => addL (nzK l k) (nth l k).acc (nth l k).amt
@[simp] theorem nzK_zero (l : List Line) : nzK l 0 = [] := rfl
end Go.Proofs.YtdgbfbgnbgfmjaaGreatDoor
namespace Go.Proofs.YtdgbfbgnbgfmjaaGreatDoor
open Go Go.Fi
set_option maxRecDepth 20000

/-! ### opposite entries -/
def negK (l : List Line) (k : Nat) : List Line := negL (l.take k) ++ l.drop k
@[simp] theorem negK_zero (l : List Line) : negK l 0 = l := by simp [negK, negL]
@[simp] theorem negK_len (l : List Line) (k : Nat) : (negK l k).length = l.length := by
  simp [negK, negL]; omega
@[simp] theorem lA_frs : ∀ l : List Line, AV.frs.frsL (lA l) = true
  | [] => rfl
  | x :: l => by
    have ih := lA_frs l
    show (AV.frs (.w false false (.str x.acc)) && (AV.frs (.w false false (.int .i64 x.amt)) && AV.frs.frsL (lA l))) = true
    rw [ih]; rfl
@[simp] theorem lA_sh (n : Nat) (l : List Line) : AV.sh.shL n (lA l) = lA l := shL_map n false false _
@[simp] theorem lA_ones : ∀ l : List Line, ones (lA l) = true
  | [] => rfl
  | x :: l => by
    have ih := lA_ones l
    show (AV.one (.w false false (.str x.acc)) && (AV.one (.w false false (.int .i64 x.amt)) && ones (lA l))) = true
    rw [ih]; rfl
end Go.Proofs.YtdgbfbgnbgfmjaaGreatDoor
namespace Go.Proofs.YtdgbfbgnbgfmjaaGreatDoor
open Go Go.Fi
set_option maxRecDepth 20000

/-! ### opposite, and refunds -/
end Go.Proofs.YtdgbfbgnbgfmjaaGreatDoor
namespace Go.Proofs.YtdgbfbgnbgfmjaaGreatDoor
open Go Go.Fi
set_option maxRecDepth 20000

/-! ### the document's reversed entries and refunds -/
def linesE (ls : List Line) : Int := if 12 < ls.length then 8 else if ls.any greatB = true then 2 else 0
structure RefundL (r : Rule) (n : Int) : Prop where
  len0 : ¬ (fareL r n 0 0 (partsS r n)).length = 0
  err : linesE (fareL r n 0 0 (partsS r n)) = 0
  much : ∀ d s, muchB ⟨d, s, fareL r n 0 0 (partsS r n)⟩ = false
end Go.Proofs.YtdgbfbgnbgfmjaaGreatDoor

