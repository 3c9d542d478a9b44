/- Contracts of functions for this claim: lemmas alone. -/
import Derived.Test.YtacepceplonceaaP12
set_option linter.unusedSimpArgs false
set_option linter.unusedVariables false
namespace Go.Proofs.Ytacepceplonceaa
open Go Go.Fi

def rowsA (l : List Road) (k : Nat) : List AV := (cRoads (l.take k)).map (.w true false)
theorem rowsA_len (l : List Road) (k : Nat) (h : k ≤ l.length) : (rowsA l k).length = k * 5 := by
  simp [rowsA, Nat.min_eq_left h]
@[simp] theorem rowsA_zero (l : List Road) : rowsA l 0 = [] := rfl
theorem take_succ_nth {α : Type} [Inhabited α] (l : List α) (k : Nat) (h : k < l.length) : l.take (k + 1) = l.take k ++ [nth l k] := by
  rw [List.take_succ_eq_append_getElem h]; simp [nth, List.getD_eq_getElem?_getD, List.getElem?_eq_getElem h]
theorem rowsA_succ (l : List Road) (k : Nat) (h : k < l.length) : rowsA l (k + 1) = rowsA l k ++ [.w true false (.str (nth l k).name), .w true false (.int .i64 (nth l k).frm), .w true false (.int .i64 (nth l k).to), .w true false (.int .i64 (nth l k).metres), .w true false (.sl (nth l k).pts.length (cPts (nth l k).pts))] := by
  unfold rowsA cRoads
  rw [take_succ_nth l k h, List.flatMap_append, List.map_append]
  simp [cRoad]
@[simp] theorem rowsA_lt (l : List Road) (k n : Nat) : AV.lt.ltL n (rowsA l k) = true := ltL_map n true false _
@[simp] theorem rowsA_self {D : List Nat} {h : Heap} {n n' : Nat} (l : List Road) (k : Nat) : cellsLe D h n n' (rowsA l k) (rowsA l k) = True := eq_true (cellsLe_w true false _)
@[simp] theorem cPts_flat : ∀ l : List Pt, flatL (cPts l) = true
  | [] => rfl
  | x :: r => by have := cPts_flat r; simpa [cPts, flatL] using this
@[simp] theorem cPts_one (l : List Pt) : (cPts l).all oneP = true := by simp [cPts, oneP]

set_option maxHeartbeats 4000000 in
theorem rCopy_c (n : Net) (h : NetIn n) : RealCall Try.prog 10 [aNet n] (aNet n) true := by
  have hnp := h.np
  have hnr := h.nr
  have cc := copyTexts_c n.places (by omega)
  unfold aNet cNet at *
  refine realcall_intro Try.func10 (by kernel_rfl) rfl (Nat.le_of_ble_eq_true (by kernel_rfl)) ?_
  simp only [Try.results10, Try.ntmps10]
  repeat' (first | (with_reducible first | refine awp_seq ?_ | refine awp_blockS ?_ | refine awp_blockC ?_ | refine awp_blockR ?_ | refine awp_skip ?_ | refine awp_ret ?_ | refine awp_exit ?_ | refine awp_region ?_ | refine awp_condM ?_ | refine And.intro ?_ ?_ | refine gM_splitN ?_ ?_ | refine gM_split ?_ ?_ | refine condM_splitDN ?_ ?_ | refine condM_splitD ?_ ?_ | refine condM_splitN ?_ ?_ | refine condM_split ?_ ?_ | refine condM_any ?_ ?_ | refine cw (cc) ?_ | intro _) | (simp [*]))
  refine awp_for4 4 (fun (k : Nat) => k ≤ n.roads.length) [1, 2, 3] (fun (k : Nat) => [(4, .w false false (.int .i64 k))]) [0] (fun (k : Nat) => [(3, rowsA n.roads k), (2, [.w true false (.sl n.places.length (strs n.places)), .msl 3 (k * 5) 5 0 k]), (1, [.w true true (.sl 0 []), .w true true (.sl 0 [])])]) (fun (k : Nat) => n.roads.length - k) (fun (_u : Unit) => True) [2, 3] (fun (_u : Unit) => []) [] (fun (_u : Unit) => [(3, rowsA n.roads n.roads.length), (2, [.w true false (.sl n.places.length (strs n.places)), .msl 3 (n.roads.length * 5) 5 0 n.roads.length]), (1, [.w true true (.sl 0 []), .w true true (.sl 0 [])])]) (0) (Nat.zero_le _) (le_gen [] (by simp) (by simp)) (fun k hk => ?_) (fun _u hf => ?_)
  · by_cases hlt : k < n.roads.length
    · have hpl := h.rp k hlt
      generalize hr : nth n.roads k = r at *
      have hlen := rowsA_len n.roads k hk
      have hsucc := rowsA_succ n.roads k hlt
      rw [hr] at hsucc
      have ks := keep hsucc
      clear hsucc
      repeat' (first | (with_reducible first | refine awp_seq ?_ | refine awp_blockS ?_ | refine awp_blockC ?_ | refine awp_blockR ?_ | refine awp_skip ?_ | refine awp_ret ?_ | refine awp_exit ?_ | refine awp_region ?_ | refine awp_condM ?_ | refine And.intro ?_ ?_ | refine gM_splitN ?_ ?_ | refine gM_split ?_ ?_ | refine condM_splitDN ?_ ?_ | refine condM_splitD ?_ ?_ | refine condM_splitN ?_ ?_ | refine condM_split ?_ ?_ | refine condM_any ?_ ?_ | intro _) | (simp [*, hlt, hr, cRoad, hlen]))
      all_goals first
        | exact inI64 (by omega) (by omega)
        | omega
        | skip
      rw [keep_def] at ks
      (refine loopK_normal _ _ _ _ _ (k + 1) _ ?_ (by first | omega | (dsimp only; omega) | (simp; omega)) ?_; (· omega); (refine le_gen [5] ?_ ?_ <;> first | trivial | (simp [*, Nat.add_mul]; done)))
    · have hke : k = n.roads.length := by omega
      subst hke
      repeat' (first | (with_reducible first | refine awp_seq ?_ | refine awp_blockS ?_ | refine awp_blockC ?_ | refine awp_blockR ?_ | refine awp_skip ?_ | refine awp_ret ?_ | refine awp_exit ?_ | refine awp_region ?_ | refine awp_condM ?_ | refine And.intro ?_ ?_ | refine gM_splitN ?_ ?_ | refine gM_split ?_ ?_ | refine condM_splitDN ?_ ?_ | refine condM_splitD ?_ ?_ | refine condM_splitN ?_ ?_ | refine condM_split ?_ ?_ | refine condM_any ?_ ?_ | intro _) | (simp [*]))
      (refine finW_intro () ?_ ?_; (· trivial); (refine le_of ?_ ?_ <;> first | trivial | (simp [*]; done)))
  · repeat' (first | (with_reducible first | refine awp_seq ?_ | refine awp_blockS ?_ | refine awp_blockC ?_ | refine awp_blockR ?_ | refine awp_skip ?_ | refine awp_ret ?_ | refine awp_exit ?_ | refine awp_region ?_ | refine awp_condM ?_ | refine And.intro ?_ ?_ | refine gM_splitN ?_ ?_ | refine gM_split ?_ ?_ | refine condM_splitDN ?_ ?_ | refine condM_splitD ?_ ?_ | refine condM_splitN ?_ ?_ | refine condM_split ?_ ?_ | refine condM_any ?_ ?_ | intro _) | (simp [*, rowsA]))
end Go.Proofs.Ytacepceplonceaa
