/- Contracts of functions for this claim: lemmas alone. -/
import Derived.Test.YtdgbfbgnbgfmjaaGreatDoorP26
import Derived.Test.YtdgbfbgnbgfmjaaGreatDoorP21
import Derived.Test.YtdgbfbgnbgfmjaaGreatDoorP20
set_option linter.unusedSimpArgs false
set_option linter.unusedVariables false
namespace Go.Proofs.YtdgbfbgnbgfmjaaGreatDoor
open Go Go.Fi
set_option maxRecDepth 20000

/-! ### what a book that is right is like -/
theorem linesF_zero {a : List Acc} : ∀ (l : List Line) (i : Nat) (s : Int), (linesF a l i s).2 = 0 → ∀ k, k < l.length → lineE a (nth l k) = 0
  | [], _, _, _, k, hk => by cases hk
  | y :: r, i, s, h, k, hk => by
    unfold linesF at h
    by_cases hy : lineE a y = 0
    · rw [if_pos hy] at h
      cases k with
      | zero => exact hy
      | succ k => exact linesF_zero r _ _ h k (by simpa using hk)
    · rw [if_neg hy] at h; exact absurd h hy
theorem entryS_zero {a : List Acc} {e : Entry} (h : (entryS a e).2 = 0) : headE e = 0 ∧ ∀ k, k < e.lines.length → lineE a (nth e.lines k) = 0 := by
  unfold entryS at h
  by_cases hh : headE e = 0
  · rw [if_pos hh] at h; exact ⟨hh, linesF_zero _ _ _ h⟩
  · rw [if_neg hh] at h; exact absurd h hh
theorem entE_zero {a : List Acc} {s : Int} {e : Entry} (h : entE a s e = 0) : (entryS a e).2 = 0 ∧ s ≤ e.date :=
  ⟨firstS_zero h _ (by simp), of_decide_eq_true (unless_zero (firstS_zero h (errUnless (decide (s ≤ e.date)) 9) (by simp)) (by decide))⟩
theorem bookF_zero {a : List Acc} {c : Int} : ∀ (l : List Entry) (i : Nat) (s : Int), (bookF a c l i s).2 = 0 → ∀ k, k < l.length → (entryS a (nth l k)).2 = 0
  | [], _, _, _, k, hk => by cases hk
  | y :: r, i, s, h, k, hk => by
    unfold bookF at h
    by_cases hy : entE a s y = 0
    · rw [if_pos hy] at h
      cases k with
      | zero => exact (entE_zero hy).1
      | succ k => exact bookF_zero r _ _ h k (by simpa using hk)
    · rw [if_neg hy] at h; exact absurd h hy
structure BookRight (b : Book) : Prop where
  accs : (accsS b.accs).2 = 0
  len : b.entries.length ≤ 100
  ent : ∀ k, k < b.entries.length → (entryS b.accs (nth b.entries k)).2 = 0
theorem bookS_zero {b : Book} (h : (bookS b).2 = 0) : BookRight b := by
  unfold bookS at h
  by_cases hh : bookH b = 0
  · rw [if_pos hh] at h
    obtain ⟨h1, h2⟩ := bookH_zero hh
    exact ⟨h1, h2, bookF_zero _ _ _ h⟩
  · rw [if_neg hh] at h; exact absurd h hh
structure EntsTight (l : List Entry) : Prop where
  len : l.length ≤ 100
  lines : ∀ k, k < l.length → (nth l k).lines.length ≤ 12
  amt : ∀ k, k < l.length → ∀ j, j < (nth l k).lines.length → -1000000000 ≤ (nth (nth l k).lines j).amt ∧ (nth (nth l k).lines j).amt ≤ 1000000000
theorem BookRight.tight {b : Book} (h : BookRight b) : EntsTight b.entries :=
  ⟨h.len, fun k hk => (headE_zero (entryS_zero (h.ent k hk)).1).2.2.2.2, fun k hk j hj => (lineE_zero ((entryS_zero (h.ent k hk)).2 j hj)).2.2⟩
theorem EntsTight.ents {l : List Entry} (h : EntsTight l) : EntsIn l :=
  ⟨by have := h.len; omega, fun k hk => ⟨by have := h.lines k hk; omega, h.amt k hk⟩⟩
theorem EntsTight.bal {l : List Entry} (h : EntsTight l) (n : ByteArray) (d : Int) : ∀ k, k ≤ l.length → -(12000000000 * (k : Int)) ≤ balS n d (l.take k) ∧ balS n d (l.take k) ≤ 12000000000 * (k : Int)
  | 0, _ => by simp
  | k + 1, hk => by
    have ih := h.bal n d k (by omega)
    rw [balS_succ n d l k (by omega)]
    have hp := putS_abs n (nth l k).lines (h.amt k (by omega))
    have hl := h.lines k (by omega)
    split <;> omega
theorem EntsTight.small {l : List Entry} (h : EntsTight l) (n : ByteArray) (d : Int) : -1200000000000 ≤ balS n d l ∧ balS n d l ≤ 1200000000000 := by
  have hb := h.bal n d l.length (Nat.le_refl _)
  rw [List.take_length] at hb
  have := h.len
  omega
def resB (a : Acc) : Bool := decide (a.kind = 2) || decide (a.kind = 3)
theorem open_c (b : Book) (hb : BookIn b) : RealCall Tryz.prog 116 [.agg (cBook b)] (.tup [.agg (cBook b), .int .i64 (bookS b).2]) false := by
  have c1 := checkBook_c b hb
  unfold pairI at c1
  generalize bookS b = q at *
  unfold cBook at *
  refine realcall_intro Tryz.func116 (by kernel_rfl) rfl (Nat.le_of_ble_eq_true (by kernel_rfl)) ?_
  simp only [Tryz.results116, Tryz.ntmps116]
  repeat' (first | (with_reducible first | refine awp_seq ?_ | refine awp_blockS ?_ | refine awp_blockC ?_ | refine awp_blockR ?_ | refine awp_skip ?_ | refine awp_ret ?_ | refine awp_exit ?_ | refine awp_region ?_ | refine awp_condM ?_ | refine And.intro ?_ ?_ | apply gQ_merge | apply gE_merge | exact EqV_w | exact EqE_w | exact EqV_ptr | exact EqE_ptr | exact EqV_msl | exact EqE_msl | exact EqV_agg | exact EqE_agg | exact EqV_fn | exact EqE_fn | exact EqV_gd | exact EqE_gd | refine gM_splitN ?_ ?_ | refine gM_split ?_ ?_ |  refine condM_splitDN ?_ ?_ | refine condM_splitD ?_ ?_ | refine condM_splitN ?_ ?_ | refine condM_split ?_ ?_ | refine condM_any ?_ ?_ | refine cw (c1) ?_ | intro _) | (simp [*]) | (refine cw_eq (c1) ?_ ?_; (· (simp [*]; done))))
theorem accountErr_c (b : Book) (hl : b.accs.length < 100000) (n : ByteArray) : RealCall Tryz.prog 117 [.agg (cBook b), .str n] (.int .i64 (errUnless (hasS b.accs n) 6)) true := by
  have c1 := has_c b.accs hl n
  unfold cBook
  refine realcall_intro Tryz.func117 (by kernel_rfl) rfl (Nat.le_of_ble_eq_true (by kernel_rfl)) ?_
  simp only [Tryz.results117, Tryz.ntmps117]
  repeat' (first | (with_reducible first | refine awp_seq ?_ | refine awp_blockS ?_ | refine awp_blockC ?_ | refine awp_blockR ?_ | refine awp_skip ?_ | refine awp_ret ?_ | refine awp_exit ?_ | refine awp_region ?_ | refine awp_condM ?_ | refine And.intro ?_ ?_ | apply gQ_merge | apply gE_merge | exact EqV_w | exact EqE_w | exact EqV_ptr | exact EqE_ptr | exact EqV_msl | exact EqE_msl | exact EqV_agg | exact EqE_agg | exact EqV_fn | exact EqE_fn | exact EqV_gd | exact EqE_gd | refine gM_splitN ?_ ?_ | refine gM_split ?_ ?_ |  refine condM_splitDN ?_ ?_ | refine condM_splitD ?_ ?_ | refine condM_splitN ?_ ?_ | refine condM_split ?_ ?_ | refine condM_any ?_ ?_ | refine cw (c1) ?_ | refine cw (unless_c _ _) ?_ | intro _) | (simp [*]) | (refine cw_eq (c1) ?_ ?_; (· (simp [*]; done))) | (refine cw_eq (unless_c _ _) ?_ ?_; (· (simp [*]; done))))
def clK (f : ByteArray → Int) (l : List Acc) : Nat → List Line
  | 0 => []
  | k + 1 => if (resB (nth l k) && !decide (f (nth l k).name = 0)) = true then clK f l k ++ [⟨(nth l k).name, -(f (nth l k).name)⟩] else clK f l k
def nK (f : ByteArray → Int) (l : List Acc) : Nat → Int
  | 0 => 0
  | k + 1 => if (resB (nth l k) && !decide (f (nth l k).name = 0)) = true then nK f l k + f (nth l k).name else nK f l k
theorem clK_len (f : ByteArray → Int) (l : List Acc) : ∀ k, (clK f l k).length ≤ k
  | 0 => Nat.le_refl 0
  | k + 1 => by
    have ih := clK_len f l k
    unfold clK
    split
    · simp; omega
    · omega
theorem nK_abs (f : ByteArray → Int) (hf : ∀ n, -1200000000000 ≤ f n ∧ f n ≤ 1200000000000) (l : List Acc) : ∀ k : Nat, -(1200000000000 * (k : Int)) ≤ nK f l k ∧ nK f l k ≤ 1200000000000 * (k : Int)
  | 0 => by simp [nK]
  | k + 1 => by
    have ih := nK_abs f hf l k
    have h1 := hf (nth l k).name
    unfold nK
    split <;> omega
@[simp] theorem clK_zero (f : ByteArray → Int) (l : List Acc) : clK f l 0 = [] := rfl
@[simp] theorem nK_zero (f : ByteArray → Int) (l : List Acc) : nK f l 0 = 0 := rfl
theorem clK_yes (f : ByteArray → Int) (l : List Acc) (k : Nat) (h1 : resB (nth l k) = true) (h2 : ¬ f (nth l k).name = 0) : clK f l (k + 1) = clK f l k ++ [⟨(nth l k).name, -(f (nth l k).name)⟩] :=
  if_pos (by rw [h1]; simp [h2])
theorem clK_no (f : ByteArray → Int) (l : List Acc) (k : Nat) (h : resB (nth l k) = false ∨ f (nth l k).name = 0) : clK f l (k + 1) = clK f l k :=
  if_neg (by rcases h with h | h <;> simp [h])
theorem nK_yes (f : ByteArray → Int) (l : List Acc) (k : Nat) (h1 : resB (nth l k) = true) (h2 : ¬ f (nth l k).name = 0) : nK f l (k + 1) = nK f l k + f (nth l k).name :=
  if_pos (by rw [h1]; simp [h2])
theorem nK_no (f : ByteArray → Int) (l : List Acc) (k : Nat) (h : resB (nth l k) = false ∨ f (nth l k).name = 0) : nK f l (k + 1) = nK f l k :=
  if_neg (by rcases h with h | h <;> simp [h])
end Go.Proofs.YtdgbfbgnbgfmjaaGreatDoor
