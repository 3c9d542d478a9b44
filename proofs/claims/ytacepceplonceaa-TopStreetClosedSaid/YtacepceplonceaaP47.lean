/- Contracts of functions for this claim: lemmas alone. -/
import Derived.Test.YtacepceplonceaaP46
set_option linter.unusedSimpArgs false
set_option linter.unusedVariables false
namespace Go.Proofs.Ytacepceplonceaa
open Go Go.Fi

/-- a list without one -/
def wr (l : List Road) (r : Nat) : Nat → List Road
  | 0 => []
  | k + 1 => if k = r then wr l r k else wr l r k ++ [nth l k]
@[simp] theorem wr_zero (l : List Road) (r : Nat) : wr l r 0 = [] := rfl
def outN (n : Net) (r : Nat) : Net := ⟨n.places, wr n.roads r n.roads.length⟩
theorem wr_eq (l : List Road) (r : Nat) : ∀ k, k ≤ l.length → wr l r k = if k ≤ r then l.take k else l.take r ++ (l.drop (r + 1)).take (k - (r + 1))
  | 0, _ => by simp [wr]
  | k + 1, hk => by
    have ih := wr_eq l r k (by omega)
    simp only [wr]
    by_cases h1 : k = r
    · subst h1
      rw [if_pos rfl, ih, if_pos (Nat.le_refl _), if_neg (by omega), Nat.sub_self]; simp
    · rw [if_neg h1, ih]
      by_cases h2 : k + 1 ≤ r
      · rw [if_pos h2, if_pos (by omega), take_succ_nth l k (by omega)]
      · rw [if_neg h2, if_neg (by omega)]
        have e : k + 1 - (r + 1) = (k - (r + 1)) + 1 := by omega
        have hd : k - (r + 1) < (l.drop (r + 1)).length := by rw [List.length_drop]; omega
        rw [e, take_succ_nth _ _ hd, List.append_assoc]
        congr 3
        unfold nth
        rw [List.getD_eq_getElem?_getD, List.getD_eq_getElem?_getD, List.getElem?_drop]
        congr 2; omega
theorem wr_all (l : List Road) (r : Nat) (h : r < l.length) : wr l r l.length = l.take r ++ l.drop (r + 1) := by
  rw [wr_eq l r _ (Nat.le_refl _), if_neg (by omega), List.take_of_length_le (l := l.drop (r + 1)) (by rw [List.length_drop]; omega)]
theorem wr_len (l : List Road) (r : Nat) : ∀ k, (wr l r k).length ≤ k ∧ (r < k → (wr l r k).length + 1 = k) ∧ (k ≤ r → (wr l r k).length = k)
  | 0 => ⟨Nat.le_refl _, fun h => absurd h (Nat.not_lt_zero _), fun _ => rfl⟩
  | k + 1 => by
    obtain ⟨a, b, c⟩ := wr_len l r k
    simp only [wr]
    by_cases h : k = r
    · subst h; rw [if_pos rfl]
      have := c (Nat.le_refl _)
      exact ⟨by omega, fun _ => by omega, fun h => by omega⟩
    · rw [if_neg h, List.length_append, List.length_singleton]
      exact ⟨by omega, fun h => by have := b (by omega); omega, fun h => by have := c (by omega); omega⟩
def rowsV (l : List Road) : List AV := (cRoads l).map (.w true false)
@[simp] theorem rowsV_nil : rowsV [] = [] := rfl
theorem rowsV_len (l : List Road) : (rowsV l).length = l.length * 5 := by simp [rowsV]
theorem rowsV_snoc (l : List Road) (r : Road) : rowsV (l ++ [r]) = rowsV l ++ [.w true false (.str r.name), .w true false (.int .i64 r.frm), .w true false (.int .i64 r.to), .w true false (.int .i64 r.metres), .w true false (.sl r.pts.length (cPts r.pts))] := by
  unfold rowsV cRoads
  rw [List.flatMap_append, List.map_append]
  simp [cRoad]
@[simp] theorem rowsV_lt (l : List Road) (n : Nat) : AV.lt.ltL n (rowsV l) = true := ltL_map n true false _
@[simp] theorem rowsV_self {D : List Nat} {h : Heap} {n n' : Nat} (l : List Road) : cellsLe D h n n' (rowsV l) (rowsV l) = True := eq_true (cellsLe_w true false _)
def wE (n : Net) (r : Int) : Int := firstS [(netS n).2.2, errUnless (winB r 0 (n.roads.length - 1)) 6]
set_option maxHeartbeats 4000000 in
theorem without_ok (n : Net) (h : NetIn n) (r : Nat) (he : wE n r = 0) : RealCall Try.prog 13 [aNet n, .int .i64 r] (.tup [aNet (outN n r), .int .i64 0]) true := by
  have co := open_c n h
  have cr := roadErr_c n r h.nr
  have cf := first2_c (netS n).2.2 (errUnless (winB r 0 (n.roads.length - 1)) 6)
  have ct := cloneTexts_c n.places (by have := h.np; omega)
  have kp := keep (fun k hk => clonePts_c (nth n.roads k).pts (by have := h.rp k hk; omega))
  have hnr := h.nr
  have hnp := h.np
  unfold wE at he
  generalize (netS n).2.2 = ne at *
  generalize errUnless (winB r 0 (n.roads.length - 1)) 6 = re at *
  rw [he] at cf
  clear h he
  unfold outN
  unfold aNet cNet at *
  refine realcall_intro Try.func13 (by kernel_rfl) rfl (Nat.le_of_ble_eq_true (by kernel_rfl)) ?_
  simp only [Try.results13, Try.ntmps13]
  repeat' (first | (with_reducible first | refine awp_seq ?_ | refine awp_blockS ?_ | refine awp_blockC ?_ | refine awp_blockR ?_ | refine awp_skip ?_ | refine awp_ret ?_ | refine awp_exit ?_ | refine awp_region ?_ | refine awp_condM ?_ | refine And.intro ?_ ?_ | refine gM_splitN ?_ ?_ | refine gM_split ?_ ?_ | refine condM_splitDN ?_ ?_ | refine condM_splitD ?_ ?_ | refine condM_splitN ?_ ?_ | refine condM_split ?_ ?_ | refine condM_any ?_ ?_ | refine cw (co) ?_ | refine cw (cr) ?_ | refine cw (cf) ?_ | refine cw (ct) ?_ | intro _) | (simp [*]))
  all_goals try omega
  clear co cr cf ct
  refine awp_for4 6 (fun (k : Nat) => k ≤ n.roads.length) [1, 4, 8, 31, 32] (fun (k : Nat) => [(33, .w false false (.int .i64 k))]) [] (fun (k : Nat) => [(5, rowsV (wr n.roads r k)), (4, [.w true false (.sl n.places.length (strs n.places)), .msl 5 ((wr n.roads r k).length * 5) 5 0 (wr n.roads r k).length]), (1, [.w true true (.sl 0 []), .w true true (.sl 0 [])])]) (fun (k : Nat) => n.roads.length - k) (fun (_u : Unit) => True) [4, 8] (fun (_u : Unit) => []) [] (fun (_u : Unit) => [(5, rowsV (wr n.roads r n.roads.length)), (4, [.w true false (.sl n.places.length (strs n.places)), .msl 5 ((wr n.roads r n.roads.length).length * 5) 5 0 (wr n.roads r n.roads.length).length]), (1, [.w true true (.sl 0 []), .w true true (.sl 0 [])])]) (0) (Nat.zero_le _) (le_gen [] (by simp) (by simp)) (fun k hk => ?_) (fun _u hf => ?_)
  · by_cases hlt : k < n.roads.length
    · have hwl := (wr_len n.roads r k).1
      by_cases hkr : k = r
      · subst hkr
        have e : wr n.roads k (k + 1) = wr n.roads k k := if_pos rfl
        have ks := keep e
        clear e
        repeat' (first | (with_reducible first | refine awp_seq ?_ | refine awp_blockS ?_ | refine awp_blockC ?_ | refine awp_blockR ?_ | refine awp_skip ?_ | refine awp_ret ?_ | refine awp_exit ?_ | refine awp_region ?_ | refine awp_condM ?_ | refine And.intro ?_ ?_ | refine gM_splitN ?_ ?_ | refine gM_split ?_ ?_ | refine condM_splitDN ?_ ?_ | refine condM_splitD ?_ ?_ | refine condM_splitN ?_ ?_ | refine condM_split ?_ ?_ | refine condM_any ?_ ?_ | intro _) | (simp [*, hlt, cRoad]))
        all_goals first
          | exact inI64 (by omega) (by omega)
          | omega
          | skip
        rw [keep_def] at ks
        (refine loopK_normal _ _ _ _ _ (k + 1) _ ?_ (by first | omega | (dsimp only; omega) | (simp; omega)) ?_; (· omega); (refine le_gen [] ?_ ?_ <;> first | trivial | (simp [*, ks]; done)))
      · have e : wr n.roads r (k + 1) = wr n.roads r k ++ [nth n.roads k] := if_neg hkr
        have el : (wr n.roads r (k + 1)).length = (wr n.roads r k).length + 1 := by rw [e, List.length_append, List.length_singleton]
        have hsucc := rowsV_snoc (wr n.roads r k) (nth n.roads k)
        rw [← e] at hsucc
        have cp := kp k hlt
        have hlen := rowsV_len (wr n.roads r k)
        clear e
        generalize hrd : nth n.roads k = rd at *
        have ks := keep (And.intro hsucc el)
        clear hsucc el
        have hkr' : ¬ (k : Int) = (r : Int) := by omega
        generalize wr n.roads r k = W at *
        repeat' (first | (with_reducible first | refine awp_seq ?_ | refine awp_blockS ?_ | refine awp_blockC ?_ | refine awp_blockR ?_ | refine awp_skip ?_ | refine awp_ret ?_ | refine awp_exit ?_ | refine awp_region ?_ | refine awp_condM ?_ | refine And.intro ?_ ?_ | refine gM_splitN ?_ ?_ | refine gM_split ?_ ?_ | refine condM_splitDN ?_ ?_ | refine condM_splitD ?_ ?_ | refine condM_splitN ?_ ?_ | refine condM_split ?_ ?_ | refine condM_any ?_ ?_ | refine cw (cp) ?_ | intro _) | (simp [*, hlt, hrd, hkr', cRoad, hlen]))
        all_goals first
          | exact inI64 (by omega) (by omega)
          | omega
          | skip
        obtain ⟨hsucc, el⟩ := ks
        (refine loopK_normal _ _ _ _ _ (k + 1) _ ?_ (by first | omega | (dsimp only; omega) | (simp; omega)) ?_; (· omega); (refine le_gen [] ?_ ?_ <;> first | trivial | (simp [*, Nat.add_mul]; done)))
    · have hke : k = n.roads.length := by omega
      subst hke
      repeat' (first | (with_reducible first | refine awp_seq ?_ | refine awp_blockS ?_ | refine awp_blockC ?_ | refine awp_blockR ?_ | refine awp_skip ?_ | refine awp_ret ?_ | refine awp_exit ?_ | refine awp_region ?_ | refine awp_condM ?_ | refine And.intro ?_ ?_ | refine gM_splitN ?_ ?_ | refine gM_split ?_ ?_ | refine condM_splitDN ?_ ?_ | refine condM_splitD ?_ ?_ | refine condM_splitN ?_ ?_ | refine condM_split ?_ ?_ | refine condM_any ?_ ?_ | intro _) | (simp [*]))
      (refine finW_intro () ?_ ?_; (· trivial); (refine le_of ?_ ?_ <;> first | trivial | (simp [*]; done)))
  · repeat' (first | (with_reducible first | refine awp_seq ?_ | refine awp_blockS ?_ | refine awp_blockC ?_ | refine awp_blockR ?_ | refine awp_skip ?_ | refine awp_ret ?_ | refine awp_exit ?_ | refine awp_region ?_ | refine awp_condM ?_ | refine And.intro ?_ ?_ | refine gM_splitN ?_ ?_ | refine gM_split ?_ ?_ | refine condM_splitDN ?_ ?_ | refine condM_splitD ?_ ?_ | refine condM_splitN ?_ ?_ | refine condM_split ?_ ?_ | refine condM_any ?_ ?_ | intro _) | (simp [*, rowsV]))
end Go.Proofs.Ytacepceplonceaa
