/- Contracts of functions for this claim: lemmas alone. -/
import Derived.Test.YtacepceplonceaaP5
set_option linter.unusedSimpArgs false
set_option linter.unusedVariables false
namespace Go.Proofs.Ytacepceplonceaa
open Go Go.Fi

@[simp] theorem cRoads_len (l : List Road) : (cRoads l).length = l.length * 5 := flatMap_len cRoad 5 (fun _ => rfl) l
@[simp] theorem cRoads_drop (l : List Road) (k : Nat) (h : k < l.length) : ((cRoads l).drop (k * 5)).take 5 = cRoad (nth l k) := flatMap_drop cRoad 5 (fun _ => rfl) l k h
@[simp] theorem cRoads_0 (l : List Road) (k : Nat) (h : k < l.length) : nthP (cRoads l) (k * 5) = .str (nth l k).name := flatMap_get cRoad 5 (fun _ => rfl) l k 0 h (by omega)
@[simp] theorem cRoads_1 (l : List Road) (k : Nat) (h : k < l.length) : nthP (cRoads l) (k * 5 + 1) = .int .i64 (nth l k).frm := flatMap_get cRoad 5 (fun _ => rfl) l k 1 h (by omega)
@[simp] theorem cRoads_2 (l : List Road) (k : Nat) (h : k < l.length) : nthP (cRoads l) (k * 5 + 2) = .int .i64 (nth l k).to := flatMap_get cRoad 5 (fun _ => rfl) l k 2 h (by omega)
@[simp] theorem cRoads_3 (l : List Road) (k : Nat) (h : k < l.length) : nthP (cRoads l) (k * 5 + 3) = .int .i64 (nth l k).metres := flatMap_get cRoad 5 (fun _ => rfl) l k 3 h (by omega)
@[simp] theorem cRoads_4 (l : List Road) (k : Nat) (h : k < l.length) : nthP (cRoads l) (k * 5 + 4) = .sl (nth l k).pts.length (cPts (nth l k).pts) := flatMap_get cRoad 5 (fun _ => rfl) l k 4 h (by omega)

/-- the first of which something is so, from a number on -/
def idxFrom {α : Type} [Inhabited α] (p : α → Bool) (l : List α) : Nat → Nat → Int
  | 0, _ => -1
  | f + 1, k => if k < l.length then (if p (nth l k) then (k : Int) else idxFrom p l f (k + 1)) else -1
def idxS {α : Type} [Inhabited α] (p : α → Bool) (l : List α) : Int := idxFrom p l l.length 0
theorem idxFrom_end {α : Type} [Inhabited α] (p : α → Bool) (l : List α) (k : Nat) (h : l.length ≤ k) : idxFrom p l (l.length - k) k = -1 := by
  rw [show l.length - k = 0 by omega]; rfl
theorem idxFrom_hit {α : Type} [Inhabited α] (p : α → Bool) (l : List α) (k : Nat) (h : k < l.length) (hp : p (nth l k) = true) : idxFrom p l (l.length - k) k = k := by
  rw [show l.length - k = (l.length - k - 1) + 1 by omega]; simp [idxFrom, h, hp]
theorem idxFrom_miss {α : Type} [Inhabited α] (p : α → Bool) (l : List α) (k : Nat) (h : k < l.length) (hp : p (nth l k) = false) : idxFrom p l (l.length - k) k = idxFrom p l (l.length - (k + 1)) (k + 1) := by
  rw [show l.length - k = (l.length - (k + 1)) + 1 by omega]; simp [idxFrom, h, hp]
theorem idxFrom_any {α : Type} [Inhabited α] (p : α → Bool) (l : List α) : ∀ f k, l.length - k = f → decide (0 ≤ idxFrom p l f k) = (l.drop k).any p
  | 0, k, h => by simp [idxFrom, List.drop_eq_nil_of_le (show l.length ≤ k by omega)]
  | f + 1, k, h => by
    have hk : k < l.length := by omega
    have hn : nth l k = l[k] := by simp [nth, List.getD_eq_getElem?_getD, List.getElem?_eq_getElem hk]
    rw [List.drop_eq_getElem_cons hk, List.any_cons, ← hn, ← idxFrom_any p l f (k + 1) (by omega)]
    simp only [idxFrom, hk, if_true]
    cases p (nth l k) <;> simp
theorem idxS_any {α : Type} [Inhabited α] (p : α → Bool) (l : List α) : decide (0 ≤ idxS p l) = l.any p := idxFrom_any p l _ 0 rfl

theorem index_c (l : List ByteArray) (s : ByteArray) (hl : l.length < 1000) : RealCall Try.prog 58 [.sl l.length (strs l), .str s] (.int .i64 (idxS (fun x => decide (s = x)) l)) true := by
  refine realcall_intro Try.func58 (by kernel_rfl) rfl (Nat.le_of_ble_eq_true (by kernel_rfl)) ?_
  simp only [Try.results58, Try.ntmps58]
  repeat' (first | (with_reducible first | refine awp_seq ?_ | refine awp_blockS ?_ | refine awp_blockC ?_ | refine awp_blockR ?_ | refine awp_skip ?_ | refine awp_ret ?_ | refine awp_exit ?_ | refine awp_region ?_ | refine awp_condM ?_ | refine And.intro ?_ ?_ | refine gM_splitN ?_ ?_ | refine gM_split ?_ ?_ | refine condM_splitDN ?_ ?_ | refine condM_splitD ?_ ?_ | refine condM_splitN ?_ ?_ | refine condM_split ?_ ?_ | refine condM_any ?_ ?_ | intro _) | (simp [*]))
  refine awp_for2 (fun k : Nat => k ≤ l.length ∧ idxFrom (fun x => decide (s = x)) l (l.length - k) k = idxS (fun x => decide (s = x)) l) [0, 1, 6, 7] (fun k => [(8, .w false false (.int .i64 k))]) (fun _ => []) (fun k => l.length - k)
    (fun _ : Unit => idxS (fun x => decide (s = x)) l = -1) [] (fun _ => []) (fun _ => []) 0 ⟨Nat.zero_le _, rfl⟩ (by simp) (by simp) (fun k hk => ?_) (fun _ hf => ?_)
  · obtain ⟨hk, hf⟩ := hk
    repeat' (first | (with_reducible first | refine awp_seq ?_ | refine awp_blockS ?_ | refine awp_blockC ?_ | refine awp_blockR ?_ | refine awp_skip ?_ | refine awp_ret ?_ | refine awp_exit ?_ | refine awp_region ?_ | refine awp_condM ?_ | refine And.intro ?_ ?_ | refine gM_splitN ?_ ?_ | refine gM_split ?_ ?_ | refine condM_splitDN ?_ ?_ | refine condM_splitD ?_ ?_ | refine condM_splitN ?_ ?_ | refine condM_split ?_ ?_ | refine condM_any ?_ ?_ | intro _) | (simp [*]))
    all_goals first
      | exact inI64 (by omega) (by omega)
      | omega
      | (rename_i h0; subst h0; rw [← hf, idxFrom_hit _ l k (by omega) (by simp)]; done)
      | (rename_i h0; rw [← hf, idxFrom_hit _ l k (by omega) (by simpa using h0)]; done)
      | (rename_i h0; (refine loopK_normal _ _ _ _ _ (k + 1) _ ?_ (by first | omega | (dsimp only; omega) | (simp; omega)) ?_; (· refine ⟨by omega, ?_⟩; rw [← hf, idxFrom_miss _ l k (by omega) (by simpa using h0)]); (refine le_of ?_ ?_ <;> first | trivial | (simp [*]; done))))
      | (refine finW_intro () ?_ ?_; (· rw [← hf, idxFrom_end _ l k (by omega)]); (refine le_of ?_ ?_ <;> first | trivial | (simp [*]; done)))
      | skip
  · repeat' (first | (with_reducible first | refine awp_seq ?_ | refine awp_blockS ?_ | refine awp_blockC ?_ | refine awp_blockR ?_ | refine awp_skip ?_ | refine awp_ret ?_ | refine awp_exit ?_ | refine awp_region ?_ | refine awp_condM ?_ | refine And.intro ?_ ?_ | refine gM_splitN ?_ ?_ | refine gM_split ?_ ?_ | refine condM_splitDN ?_ ?_ | refine condM_splitD ?_ ?_ | refine condM_splitN ?_ ?_ | refine condM_split ?_ ?_ | refine condM_any ?_ ?_ | intro _) | (simp [*]))
theorem contains_c (l : List ByteArray) (s : ByteArray) (hl : l.length < 1000) : RealCall Try.prog 49 [.sl l.length (strs l), .str s] (.bool (l.any fun x => decide (s = x))) true := by
  have hc := index_c l s hl
  refine realcall_intro Try.func49 (by kernel_rfl) rfl (Nat.le_of_ble_eq_true (by kernel_rfl)) ?_
  simp only [Try.results49, Try.ntmps49]
  repeat' (first | (with_reducible first | refine awp_seq ?_ | refine awp_blockS ?_ | refine awp_blockC ?_ | refine awp_blockR ?_ | refine awp_skip ?_ | refine awp_ret ?_ | refine awp_exit ?_ | refine awp_region ?_ | refine awp_condM ?_ | refine And.intro ?_ ?_ | refine gM_splitN ?_ ?_ | refine gM_split ?_ ?_ | refine condM_splitDN ?_ ?_ | refine condM_splitD ?_ ?_ | refine condM_splitN ?_ ?_ | refine condM_split ?_ ?_ | refine condM_any ?_ ?_ | refine cw (hc) ?_ | intro _) | (simp [*, idxS_any]))
theorem rHasText_c (l : List ByteArray) (s : ByteArray) (hl : l.length < 1000) : RealCall Try.prog 35 [.sl l.length (strs l), .str s] (.bool (l.any fun x => decide (x = s))) true := by
  rw [← idxS_any]
  refine realcall_intro Try.func35 (by kernel_rfl) rfl (Nat.le_of_ble_eq_true (by kernel_rfl)) ?_
  simp only [Try.results35, Try.ntmps35]
  repeat' (first | (with_reducible first | refine awp_seq ?_ | refine awp_blockS ?_ | refine awp_blockC ?_ | refine awp_blockR ?_ | refine awp_skip ?_ | refine awp_ret ?_ | refine awp_exit ?_ | refine awp_region ?_ | refine awp_condM ?_ | refine And.intro ?_ ?_ | refine gM_splitN ?_ ?_ | refine gM_split ?_ ?_ | refine condM_splitDN ?_ ?_ | refine condM_splitD ?_ ?_ | refine condM_splitN ?_ ?_ | refine condM_split ?_ ?_ | refine condM_any ?_ ?_ | intro _) | (simp [*]))
  refine awp_for2 (fun k : Nat => k ≤ l.length ∧ idxFrom (fun x => decide (x = s)) l (l.length - k) k = idxS (fun x => decide (x = s)) l) [0, 1] (fun k => [(5, .w false false (.int .i64 k))]) (fun _ => []) (fun k => l.length - k)
    (fun _ : Unit => idxS (fun x => decide (x = s)) l = -1) [] (fun _ => []) (fun _ => []) 0 ⟨Nat.zero_le _, rfl⟩ (by simp) (by simp) (fun k hk => ?_) (fun _ hf => ?_)
  · obtain ⟨hk, hf⟩ := hk
    repeat' (first | (with_reducible first | refine awp_seq ?_ | refine awp_blockS ?_ | refine awp_blockC ?_ | refine awp_blockR ?_ | refine awp_skip ?_ | refine awp_ret ?_ | refine awp_exit ?_ | refine awp_region ?_ | refine awp_condM ?_ | refine And.intro ?_ ?_ | refine gM_splitN ?_ ?_ | refine gM_split ?_ ?_ | refine condM_splitDN ?_ ?_ | refine condM_splitD ?_ ?_ | refine condM_splitN ?_ ?_ | refine condM_split ?_ ?_ | refine condM_any ?_ ?_ | intro _) | (simp [*]))
    all_goals first
      | exact inI64 (by omega) (by omega)
      | omega
      | (rename_i h0; rw [← hf, idxFrom_hit _ l k (by omega) (by simpa using h0)]; done)
      | (rename_i h0; rw [← hf, idxFrom_hit _ l k (by omega) (by simpa using h0)]; simp; done)
      | (rename_i h0; (refine loopK_normal _ _ _ _ _ (k + 1) _ ?_ (by first | omega | (dsimp only; omega) | (simp; omega)) ?_; (· refine ⟨by omega, ?_⟩; rw [← hf, idxFrom_miss _ l k (by omega) (by simpa using h0)]); (refine le_of ?_ ?_ <;> first | trivial | (simp [*]; done))))
      | (refine finW_intro () ?_ ?_; (· rw [← hf, idxFrom_end _ l k (by omega)]); (refine le_of ?_ ?_ <;> first | trivial | (simp [*]; done)))
      | skip
  · repeat' (first | (with_reducible first | refine awp_seq ?_ | refine awp_blockS ?_ | refine awp_blockC ?_ | refine awp_blockR ?_ | refine awp_skip ?_ | refine awp_ret ?_ | refine awp_exit ?_ | refine awp_region ?_ | refine awp_condM ?_ | refine And.intro ?_ ?_ | refine gM_splitN ?_ ?_ | refine gM_split ?_ ?_ | refine condM_splitDN ?_ ?_ | refine condM_splitD ?_ ?_ | refine condM_splitN ?_ ?_ | refine condM_split ?_ ?_ | refine condM_any ?_ ?_ | intro _) | (simp [*]))
def aRoad (r : Road) : PV := .agg (cRoad r)
theorem indexFunc_c (l : List Road) (g : Nat) (caps : List PV) (p : Road → Bool) (hl : l.length < 1000) (hp : ∀ k, k < l.length → RealCall Try.prog g (.agg (cRoad (nth l k)) :: caps) (.bool (p (nth l k))) true) :
    RealCall Try.prog 59 [.sl l.length (cRoads l), .fn g caps] (.int .i64 (idxS p l)) true := by
  refine realcall_intro Try.func59 (by kernel_rfl) rfl (Nat.le_of_ble_eq_true (by kernel_rfl)) ?_
  simp only [Try.results59, Try.ntmps59]
  repeat' (first | (with_reducible first | refine awp_seq ?_ | refine awp_blockS ?_ | refine awp_blockC ?_ | refine awp_blockR ?_ | refine awp_skip ?_ | refine awp_ret ?_ | refine awp_exit ?_ | refine awp_region ?_ | refine awp_condM ?_ | refine And.intro ?_ ?_ | refine gM_splitN ?_ ?_ | refine gM_split ?_ ?_ | refine condM_splitDN ?_ ?_ | refine condM_splitD ?_ ?_ | refine condM_splitN ?_ ?_ | refine condM_split ?_ ?_ | refine condM_any ?_ ?_ | intro _) | (simp [*]))
  refine awp_for2 (fun k : Nat => k ≤ l.length ∧ idxFrom p l (l.length - k) k = idxS p l) [0, 1, 6, 7] (fun k => [(8, .w false false (.int .i64 k))]) (fun _ => []) (fun k => l.length - k)
    (fun _ : Unit => idxS p l = -1) [] (fun _ => []) (fun _ => []) 0 ⟨Nat.zero_le _, rfl⟩ (by simp) (by simp) (fun k hk => ?_) (fun _ hf => ?_)
  · obtain ⟨hk, hf⟩ := hk
    have hc := hp k
    clear hp
    repeat' (first | (with_reducible first | refine awp_seq ?_ | refine awp_blockS ?_ | refine awp_blockC ?_ | refine awp_blockR ?_ | refine awp_skip ?_ | refine awp_ret ?_ | refine awp_exit ?_ | refine awp_region ?_ | refine awp_condM ?_ | refine And.intro ?_ ?_ | refine gM_splitN ?_ ?_ | refine gM_split ?_ ?_ | refine condM_splitDN ?_ ?_ | refine condM_splitD ?_ ?_ | refine condM_splitN ?_ ?_ | refine condM_split ?_ ?_ | refine condM_any ?_ ?_ | refine cw (hc (by omega)) ?_ | intro _) | (simp [*]))
    all_goals first
      | exact inI64 (by omega) (by omega)
      | omega
      | (rename_i h0; rw [← hf, idxFrom_hit _ l k (by omega) (by simpa using h0)]; done)
      | (rename_i h0; rw [← hf, idxFrom_hit _ l k (by omega) (by simpa using h0)]; simp; done)
      | (rename_i h0; (refine loopK_normal _ _ _ _ _ (k + 1) _ ?_ (by first | omega | (dsimp only; omega) | (simp; omega)) ?_; (· refine ⟨by omega, ?_⟩; rw [← hf, idxFrom_miss _ l k (by omega) (by simpa using h0)]); (refine le_of ?_ ?_ <;> first | trivial | (simp [*]; done))))
      | (refine finW_intro () ?_ ?_; (· rw [← hf, idxFrom_end _ l k (by omega)]); (refine le_of ?_ ?_ <;> first | trivial | (simp [*]; done)))
      | skip
  · repeat' (first | (with_reducible first | refine awp_seq ?_ | refine awp_blockS ?_ | refine awp_blockC ?_ | refine awp_blockR ?_ | refine awp_skip ?_ | refine awp_ret ?_ | refine awp_exit ?_ | refine awp_region ?_ | refine awp_condM ?_ | refine And.intro ?_ ?_ | refine gM_splitN ?_ ?_ | refine gM_split ?_ ?_ | refine condM_splitDN ?_ ?_ | refine condM_splitD ?_ ?_ | refine condM_splitN ?_ ?_ | refine condM_split ?_ ?_ | refine condM_any ?_ ?_ | intro _) | (simp [*]))
theorem containsFunc_c (l : List Road) (g : Nat) (caps : List PV) (p : Road → Bool) (hl : l.length < 1000) (hp : ∀ k, k < l.length → RealCall Try.prog g (.agg (cRoad (nth l k)) :: caps) (.bool (p (nth l k))) true) :
    RealCall Try.prog 51 [.sl l.length (cRoads l), .fn g caps] (.bool (l.any p)) true := by
  have hc := indexFunc_c l g caps p hl hp
  refine realcall_intro Try.func51 (by kernel_rfl) rfl (Nat.le_of_ble_eq_true (by kernel_rfl)) ?_
  simp only [Try.results51, Try.ntmps51]
  repeat' (first | (with_reducible first | refine awp_seq ?_ | refine awp_blockS ?_ | refine awp_blockC ?_ | refine awp_blockR ?_ | refine awp_skip ?_ | refine awp_ret ?_ | refine awp_exit ?_ | refine awp_region ?_ | refine awp_condM ?_ | refine And.intro ?_ ?_ | refine gM_splitN ?_ ?_ | refine gM_split ?_ ?_ | refine condM_splitDN ?_ ?_ | refine condM_splitD ?_ ?_ | refine condM_splitN ?_ ?_ | refine condM_split ?_ ?_ | refine condM_any ?_ ?_ | refine cw (hc) ?_ | intro _) | (simp [*, idxS_any]))
theorem sameName_c (r x : Road) : RealCall Try.prog 52 [.agg (cRoad r), .ip (cRoad x) 0] (.bool (decide (r.name = x.name))) true := by
  unfold cRoad
  refine realcall_intro Try.func52 (by kernel_rfl) rfl (Nat.le_of_ble_eq_true (by kernel_rfl)) ?_
  simp only [Try.results52, Try.ntmps52]
  repeat' (first | (with_reducible first | refine awp_seq ?_ | refine awp_blockS ?_ | refine awp_blockC ?_ | refine awp_blockR ?_ | refine awp_skip ?_ | refine awp_ret ?_ | refine awp_exit ?_ | refine awp_region ?_ | refine awp_condM ?_ | refine And.intro ?_ ?_ | refine gM_splitN ?_ ?_ | refine gM_split ?_ ?_ | refine condM_splitDN ?_ ?_ | refine condM_splitD ?_ ?_ | refine condM_splitN ?_ ?_ | refine condM_split ?_ ?_ | refine condM_any ?_ ?_ | intro _) | (simp [*]))
theorem isPlaceF_c (k : Int) (n : Net) (h : n.places.length < 1000) : RealCall Try.prog 50 [.int .i64 k, .ip (cNet n) 0] (.bool (winB k 0 (n.places.length - 1))) true := by
  unfold cNet
  refine realcall_intro Try.func50 (by kernel_rfl) rfl (Nat.le_of_ble_eq_true (by kernel_rfl)) ?_
  simp only [Try.results50, Try.ntmps50]
  repeat' (first | (with_reducible first | refine awp_seq ?_ | refine awp_blockS ?_ | refine awp_blockC ?_ | refine awp_blockR ?_ | refine awp_skip ?_ | refine awp_ret ?_ | refine awp_exit ?_ | refine awp_region ?_ | refine awp_condM ?_ | refine And.intro ?_ ?_ | refine gM_splitN ?_ ?_ | refine gM_split ?_ ?_ | refine condM_splitDN ?_ ?_ | refine condM_splitD ?_ ?_ | refine condM_splitN ?_ ?_ | refine condM_split ?_ ?_ | refine condM_any ?_ ?_ | refine cw (within_c _ _ _) ?_ | intro _) | (simp [*]))
  all_goals exact inI64 (by omega) (by omega)
end Go.Proofs.Ytacepceplonceaa
