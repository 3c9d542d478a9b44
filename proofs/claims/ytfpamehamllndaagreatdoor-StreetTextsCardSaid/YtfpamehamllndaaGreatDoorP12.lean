/- Contracts of functions for this claim: lemmas alone. -/
import Derived.Test.YtfpamehamllndaaGreatDoorP11
import Derived.Test.YtfpamehamllndaaGreatDoorLf
set_option linter.unusedSimpArgs false
set_option linter.unusedVariables false
namespace Go.Proofs.YtfpamehamllndaaGreatDoor
open Go Go.Fi

@[simp] theorem strs_flat : ∀ l : List ByteArray, flatL (strs l) = true
  | [] => rfl
  | x :: r => by have := strs_flat r; simpa [strs, flatL, flat] using this
@[simp] theorem strs_one (l : List ByteArray) : (strs l).all oneP = true := by simp [strs, oneP]
theorem copyTexts_c (l : List ByteArray) (h : l.length < 1000000) : RealCall Tryz.prog 22 [.sl l.length (strs l)] (.sl l.length (strs l)) true := by
  refine realcall_intro Tryz.func22 (by kernel_rfl) rfl (Nat.le_of_ble_eq_true (by kernel_rfl)) ?_
  simp only [Tryz.results22, Tryz.ntmps22]
  repeat' (first | (with_reducible first | refine awp_seq ?_ | refine awp_ret ?_ | refine awp_region ?_ | refine And.intro ?_ ?_ | intro _) | (simp [*]))
  all_goals omega

theorem rHasText_take (l : List ByteArray) (k : Nat) (hl : l.length < 1000) (hk : k ≤ l.length) (s : ByteArray) : RealCall Tryz.prog 57 [.sl k ((strs l).take k), .str s] (.bool ((l.take k).any fun x => decide (s = x))) true := by
  have h := rHasText_c (l.take k) s (by simp; omega)
  rw [List.length_take, Nat.min_eq_left hk] at h
  have e : (strs l).take k = strs (l.take k) := by simp [strs]
  have e2 : (fun x => decide (x = s)) = fun x => decide (s = x) := by funext x; exact decide_eq_decide.2 eq_comm
  rw [e, ← e2]; exact h
def dupP (l : List ByteArray) (k : Nat) : Bool := (l.take k).any fun x => decide (nth l k = x)
theorem errP_split (n : Net) (k : Nat) : errP n k = if nameB (nth n.places k) = true then (if dupP n.places k = true then 5 else 0) else 4 := by
  show firstS [errUnless (nameB (nth n.places k)) 4, errUnless (!dupP n.places k) 5] = _
  cases nameB (nth n.places k) <;> cases dupP n.places k <;> rfl
theorem fRoad_fst {n : Net} {k : Nat} {r : Tri} (h : fRoad n k = some r) : r.1 = k := by
  unfold fRoad at h
  split at h
  · unfold orE at h
    split at h
    · rename_i hs
      injection h with h; subst h
      obtain ⟨j, _, _, hj⟩ := scan_some hs
      unfold fPt at hj; split at hj
      · cases hj
      · injection hj with hj; rw [← hj]
    · obtain ⟨j, _, _, hj⟩ := scan_some h
      unfold fOrd at hj; split at hj
      · cases hj
      · injection hj with hj; rw [← hj]
  · injection h with h; rw [← h]
theorem roadR_some {n : Net} {k : Nat} (h : (roadR n k).2 ≠ 0) : fRoad n k = some ((k : Int), (roadR n k).1, (roadR n k).2) := by
  unfold roadR at h ⊢
  cases hf : fRoad n k with
  | none => rw [hf] at h; exact absurd rfl h
  | some r =>
    have := fRoad_fst hf
    obtain ⟨a, b, c⟩ := r
    simp only at this
    subst this; rfl
theorem roadR_none {n : Net} {k : Nat} (h : (roadR n k).2 = 0) : fRoad n k = none := by
  unfold roadR at h
  cases hf : fRoad n k with
  | none => rfl
  | some r =>
    rw [hf] at h
    exact absurd h (fRoad_ne hf)
theorem net_e0 {n : Net} (h : n.places = []) : netS n = (0, 0, 10) := by
  simp [netS, netE, h, firstS, errUnless]
theorem net_e20 {n : Net} (h : 20 < (n.places.length : Int)) : netS n = (0, 0, 8) := by
  have h1 : decide (0 < n.places.length) = true := decide_eq_true (by omega)
  have h2 : decide ((n.places.length : Int) ≤ 20) = false := decide_eq_false (by omega)
  simp only [netS, netE, h1, h2]; rfl
theorem net_rest {n : Net} (h0 : n.places ≠ []) (h : ¬ 20 < (n.places.length : Int)) : netS n = fin (scan (fPlace n) n.places.length 0) (netB n) := by
  have h3 : 0 < n.places.length := List.length_pos_iff.2 h0
  have h1 : decide (0 < n.places.length) = true := decide_eq_true h3
  have h2 : decide ((n.places.length : Int) ≤ 20) = true := decide_eq_true (by omega)
  have h4 : netE n = 0 := by simp only [netE, h1, h2]; rfl
  exact if_pos h4

set_option maxHeartbeats 4000000 in
theorem rCheckNet_c (n : Net) (h : NetIn n) : RealCall Tryz.prog 32 [aNet n] (markP (netS n)) true := by
  have hnp := h.np
  have hnr := h.nr
  have cr := fun k (hk : k < n.roads.length) => rRoadE_c n h k hk
  unfold aNet cNet markP at *
  have kcr := keep cr
  clear cr
  refine realcall_intro Tryz.func32 (by kernel_rfl) rfl (Nat.le_of_ble_eq_true (by kernel_rfl)) ?_
  simp only [Tryz.results32, Tryz.ntmps32]
  repeat' (first | (with_reducible first | refine awp_seq ?_ | refine awp_skip ?_ | refine awp_ret ?_ | refine awp_region ?_ | refine awp_condM ?_ | refine And.intro ?_ ?_ | refine condM_splitD ?_ ?_ | intro _) | (simp [*]))
  all_goals first
    | (rename_i h0; rw [net_e0 h0]; done)
    | (rename_i h0; rw [net_e20 h0]; done)
    | skip
  rename_i h0 h1
  have hR := net_rest h0 h1
  generalize netS n = R at *
  have kR := keep hR
  clear hR
  refine awp_for3 (fun (k : Nat) => k ≤ n.places.length ∧ scan (fPlace n) (n.places.length - k) k = scan (fPlace n) n.places.length 0) [1, 2, 4] (fun (k : Nat) => [(5, .w false false (.int .i64 k))]) [2, 1, 0] (fun (k : Nat) => []) (fun (k : Nat) => n.places.length - k) (fun (_u : Unit) => scan (fPlace n) n.places.length 0 = none) [1, 2, 4] (fun (_u : Unit) => []) [2, 1, 0] (fun (_u : Unit) => []) (0) ⟨Nat.zero_le _, rfl⟩ (by simp) (by simp) (fun k hk => ?_) (fun _u hf => ?_)
  · obtain ⟨hk, hj⟩ := hk
    by_cases hlt : k < n.places.length
    · have cn := rIsName_c _ (h.ps k hlt)
      have cc : RealCall Tryz.prog 57 [.sl k ((strs n.places).take k), .str (nth n.places k)] (.bool (dupP n.places k)) true := rHasText_take n.places k hnp hk (nth n.places k)
      have hsp := errP_split n k
      have hhit : ∀ c, errP n k = c → c ≠ 0 → R = ((k : Int), 0, c) := fun c hc hc0 => by
        rw [kR, ← hj, scan_hit hlt (show fPlace n k = some ((k : Int), 0, c) by rw [← hc]; exact if_neg (by rw [hc]; exact hc0))]; rfl
      have hmiss : errP n k = 0 → scan (fPlace n) (n.places.length - (k + 1)) (k + 1) = scan (fPlace n) n.places.length 0 := fun hc => by
        rw [← hj, scan_miss hlt (if_pos hc)]
      have kk := keep (And.intro hsp (And.intro hhit hmiss))
      clear hsp hhit hmiss hj
      repeat' (first | (with_reducible first | refine awp_seq ?_ | refine awp_blockS ?_ | refine awp_skip ?_ | refine awp_ret ?_ | refine awp_region ?_ | refine awp_regionD (id := 11) 10 mixed (by decide +kernel) ?_ | refine awp_condM ?_ | refine And.intro ?_ ?_ | refine condM_splitN ?_ ?_ | refine condM_split ?_ ?_ | refine cw (cn) ?_ | refine cw (cc) ?_ | intro _) | (simp [*, hlt]))
      all_goals first
        | exact inI64 (by omega) (by omega)
        | omega
        | (obtain ⟨hsp, hhit, hmiss⟩ := kk; rw [hhit 4 ?_ (by decide)]; rw [hsp]; simp [*]; done)
        | (obtain ⟨hsp, hhit, hmiss⟩ := kk; rw [hhit 5 ?_ (by decide)]; rw [hsp]; simp [*]; done)
        | (obtain ⟨hsp, hhit, hmiss⟩ := kk; (refine loopK_normal _ _ _ _ _ (k + 1) _ ?_ (by first | omega | (dsimp only; omega) | (simp; omega)) ?_; (· refine ⟨by omega, hmiss ?_⟩; rw [hsp]; simp [*]; done); (refine le_of ?_ ?_ <;> first | trivial | (simp [*]; done))))
        | skip
    · repeat' (first | (with_reducible first | refine awp_seq ?_ | refine awp_exit ?_ | refine awp_region ?_ | refine awp_condM ?_ | intro _) | (simp [*, hlt]))
      all_goals (refine finW_intro () ?_ ?_; (· rw [← hj, scan_end _ (by omega)]); (refine le_of ?_ ?_ <;> first | trivial | (simp [*]; done)))
  · have kR2 : R = netB n := by rw [hf] at kR; rw [kR]; rfl
    clear hf kR
    have kR := keep kR2
    clear kR2
    repeat' (first | (with_reducible first | refine awp_seq ?_ | refine awp_skip ?_ | refine awp_ret ?_ | refine awp_region ?_ | refine awp_condM ?_ | refine And.intro ?_ ?_ | refine condM_splitD ?_ ?_ | intro _) | (simp [*]))
    all_goals try (rename_i h2; rw [kR, show netB n = (0, 0, 8) from if_pos (by omega)]; done)
    rename_i h2
    have kR2 : R = fin (scan (fRoad n) n.roads.length 0) (0, 0, 0) := by rw [kR]; exact if_neg (by omega)
    clear kR
    have kR := keep kR2
    clear kR2
    refine awp_for3 (fun (k : Nat) => k ≤ n.roads.length ∧ scan (fRoad n) (n.roads.length - k) k = scan (fRoad n) n.roads.length 0) [1, 2, 4] (fun (k : Nat) => [(6, .w false false (.int .i64 k))]) [2, 1, 0] (fun (k : Nat) => []) (fun (k : Nat) => n.roads.length - k) (fun (_u : Unit) => scan (fRoad n) n.roads.length 0 = none) [2, 4] (fun (_u : Unit) => []) [2, 1, 0] (fun (_u : Unit) => []) (0) ⟨Nat.zero_le _, rfl⟩ (by simp) (by simp) (fun k hk => ?_) (fun _u hf => ?_)
    · obtain ⟨hk, hj⟩ := hk
      by_cases hlt : k < n.roads.length
      · have cc := kcr k hlt
        have kj := keep hj
        clear hj
        repeat' (first | (with_reducible first | refine awp_seq ?_ | refine awp_blockS ?_ | refine awp_skip ?_ | refine awp_ret ?_ | refine awp_region ?_ | refine awp_condM ?_ | refine And.intro ?_ ?_ | refine condM_splitDN ?_ ?_ | refine cw (cc) ?_ | intro _) | (simp [*, hlt]))
        all_goals first
          | exact inI64 (by omega) (by omega)
          | omega
          | (rename_i h3; rw [kR, ← kj, scan_hit hlt (roadR_some h3)]; done)
          | (rename_i h3; rw [kR, ← kj, scan_hit hlt (roadR_some h3)]; rfl)
          | (rename_i h3; (refine loopK_normal _ _ _ _ _ (k + 1) _ ?_ (by first | omega | (dsimp only; omega) | (simp; omega)) ?_; (· refine ⟨by omega, ?_⟩; rw [← kj, scan_miss hlt (roadR_none h3)]); (refine le_of ?_ ?_ <;> first | trivial | (simp [*]; done))))
          | skip
      · repeat' (first | (with_reducible first | refine awp_seq ?_ | refine awp_exit ?_ | refine awp_region ?_ | refine awp_condM ?_ | intro _) | (simp [*, hlt]))
        all_goals (refine finW_intro () ?_ ?_; (· rw [← hj, scan_end _ (by omega)]); (refine le_of ?_ ?_ <;> first | trivial | (simp [*]; done)))
    · repeat' (first | (with_reducible first | refine awp_seq ?_ | refine awp_ret ?_ | refine awp_region ?_ | refine And.intro ?_ ?_ | intro _) | (simp [*]))
      all_goals (rw [kR, hf]; try rfl)
theorem rNetErr_c (n : Net) (h : NetIn n) : RealCall Tryz.prog 11 [aNet n] (.int .i64 (netS n).2.2) true := by
  have hc := rCheckNet_c n h
  unfold aNet cNet markP at *
  refine realcall_intro Tryz.func11 (by kernel_rfl) rfl (Nat.le_of_ble_eq_true (by kernel_rfl)) ?_
  simp only [Tryz.results11, Tryz.ntmps11]
  repeat' (first | (with_reducible first | refine awp_seq ?_ | refine awp_ret ?_ | refine awp_region ?_ | refine And.intro ?_ ?_ | refine cw (hc) ?_ | intro _) | (simp [*]))
end Go.Proofs.YtfpamehamllndaaGreatDoor
namespace Go.Proofs.YtfpamehamllndaaGreatDoor
open Go Go.Fi

def rowsA (l : List Road) (k : Nat) : List AV := (cRoads (l.take k)).map (.w true false)
theorem rowsA_len (l : List Road) (k : Nat) (h : k ≤ l.length) : (rowsA l k).length = k * 5 := by
  simp [rowsA, Nat.min_eq_left h]
@[simp] theorem rowsA_zero (l : List Road) : rowsA l 0 = [] := rfl
theorem take_succ_nth {α : Type} [Inhabited α] (l : List α) (k : Nat) (h : k < l.length) : l.take (k + 1) = l.take k ++ [nth l k] := by
  rw [List.take_succ_eq_append_getElem h]; simp [nth, List.getD_eq_getElem?_getD, List.getElem?_eq_getElem h]
theorem rowsA_succ (l : List Road) (k : Nat) (h : k < l.length) : rowsA l (k + 1) = rowsA l k ++ [.w true false (.str (nth l k).name), .w true false (.int .i64 (nth l k).frm), .w true false (.int .i64 (nth l k).to), .w true false (.int .i64 (nth l k).metres), .w true false (.sl (nth l k).pts.length (cPts (nth l k).pts))] := by
  unfold rowsA cRoads
  rw [take_succ_nth l k h, List.flatMap_append, List.map_append]
  simp [cRoad]
@[simp] theorem rowsA_lt (l : List Road) (k n : Nat) : AV.lt.ltL n (rowsA l k) = true := ltL_map n true false _
@[simp] theorem rowsA_self {D : List Nat} {h : Heap} {n n' : Nat} (l : List Road) (k : Nat) : cellsLe D h n n' (rowsA l k) (rowsA l k) = True := eq_true (cellsLe_w true false _)
@[simp] theorem cPts_flat : ∀ l : List Pt, flatL (cPts l) = true
  | [] => rfl
  | x :: r => by have := cPts_flat r; simpa [cPts, flatL] using this
@[simp] theorem cPts_one (l : List Pt) : (cPts l).all oneP = true := by simp [cPts, oneP]

set_option maxHeartbeats 4000000 in
theorem rCopy_c (n : Net) (h : NetIn n) : RealCall Tryz.prog 7 [aNet n] (aNet n) true := by
  have hnp := h.np
  have hnr := h.nr
  have cc := copyTexts_c n.places (by omega)
  unfold aNet cNet at *
  refine realcall_intro Tryz.func7 (by kernel_rfl) rfl (Nat.le_of_ble_eq_true (by kernel_rfl)) ?_
  simp only [Tryz.results7, Tryz.ntmps7]
  repeat' (first | (with_reducible first | refine awp_seq ?_ | refine awp_blockS ?_ | refine awp_blockC ?_ | refine awp_blockR ?_ | refine awp_skip ?_ | refine awp_ret ?_ | refine awp_exit ?_ | refine awp_region ?_ | refine awp_condM ?_ | refine And.intro ?_ ?_ | refine gE_splitN ?_ ?_ | refine gE_split ?_ ?_ | refine gQ_splitN ?_ ?_ | refine gQ_split ?_ ?_ | refine gM_splitN ?_ ?_ | refine gM_split ?_ ?_ | refine condM_splitDN ?_ ?_ | refine condM_splitD ?_ ?_ | refine condM_splitN ?_ ?_ | refine condM_split ?_ ?_ | refine condM_any ?_ ?_ | refine cw (cc) ?_ | intro _) | (simp [*]))
  refine awp_for4 4 (fun (k : Nat) => k ≤ n.roads.length) [1, 2, 3] (fun (k : Nat) => [(4, .w false false (.int .i64 k))]) [0] (fun (k : Nat) => [(3, rowsA n.roads k), (2, [.w true false (.sl n.places.length (strs n.places)), .msl 3 (k * 5) 5 0 k]), (1, [.w true true (.sl 0 []), .w true true (.sl 0 [])])]) (fun (k : Nat) => n.roads.length - k) (fun (_u : Unit) => True) [2, 3] (fun (_u : Unit) => []) [] (fun (_u : Unit) => [(3, rowsA n.roads n.roads.length), (2, [.w true false (.sl n.places.length (strs n.places)), .msl 3 (n.roads.length * 5) 5 0 n.roads.length]), (1, [.w true true (.sl 0 []), .w true true (.sl 0 [])])]) (0) (Nat.zero_le _) (le_gen [] (by simp) (by simp)) (fun k hk => ?_) (fun _u hf => ?_)
  · by_cases hlt : k < n.roads.length
    · have hpl := h.rp k hlt
      generalize hr : nth n.roads k = r at *
      have hlen := rowsA_len n.roads k hk
      have hsucc := rowsA_succ n.roads k hlt
      rw [hr] at hsucc
      have ks := keep hsucc
      clear hsucc
      repeat' (first | (with_reducible first | refine awp_seq ?_ | refine awp_blockS ?_ | refine awp_blockC ?_ | refine awp_blockR ?_ | refine awp_skip ?_ | refine awp_ret ?_ | refine awp_exit ?_ | refine awp_region ?_ | refine awp_condM ?_ | refine And.intro ?_ ?_ | refine gE_splitN ?_ ?_ | refine gE_split ?_ ?_ | refine gQ_splitN ?_ ?_ | refine gQ_split ?_ ?_ | refine gM_splitN ?_ ?_ | refine gM_split ?_ ?_ | refine condM_splitDN ?_ ?_ | refine condM_splitD ?_ ?_ | refine condM_splitN ?_ ?_ | refine condM_split ?_ ?_ | refine condM_any ?_ ?_ | intro _) | (simp [*, hlt, hr, cRoad, hlen]))
      all_goals first
        | exact inI64 (by omega) (by omega)
        | omega
        | skip
      rw [keep_def] at ks
      (refine loopK_normal _ _ _ _ _ (k + 1) _ ?_ (by first | omega | (dsimp only; omega) | (simp; omega)) ?_; (· omega); (refine le_gen [5] ?_ ?_ <;> first | trivial | (simp [*, Nat.add_mul]; done)))
    · have hke : k = n.roads.length := by omega
      subst hke
      repeat' (first | (with_reducible first | refine awp_seq ?_ | refine awp_blockS ?_ | refine awp_blockC ?_ | refine awp_blockR ?_ | refine awp_skip ?_ | refine awp_ret ?_ | refine awp_exit ?_ | refine awp_region ?_ | refine awp_condM ?_ | refine And.intro ?_ ?_ | refine gE_splitN ?_ ?_ | refine gE_split ?_ ?_ | refine gQ_splitN ?_ ?_ | refine gQ_split ?_ ?_ | refine gM_splitN ?_ ?_ | refine gM_split ?_ ?_ | refine condM_splitDN ?_ ?_ | refine condM_splitD ?_ ?_ | refine condM_splitN ?_ ?_ | refine condM_split ?_ ?_ | refine condM_any ?_ ?_ | intro _) | (simp [*]))
      (refine finW_intro () ?_ ?_; (· trivial); (refine le_of ?_ ?_ <;> first | trivial | (simp [*]; done)))
  · repeat' (first | (with_reducible first | refine awp_seq ?_ | refine awp_blockS ?_ | refine awp_blockC ?_ | refine awp_blockR ?_ | refine awp_skip ?_ | refine awp_ret ?_ | refine awp_exit ?_ | refine awp_region ?_ | refine awp_condM ?_ | refine And.intro ?_ ?_ | refine gE_splitN ?_ ?_ | refine gE_split ?_ ?_ | refine gQ_splitN ?_ ?_ | refine gQ_split ?_ ?_ | refine gM_splitN ?_ ?_ | refine gM_split ?_ ?_ | refine condM_splitDN ?_ ?_ | refine condM_splitD ?_ ?_ | refine condM_splitN ?_ ?_ | refine condM_split ?_ ?_ | refine condM_any ?_ ?_ | intro _) | (simp [*, rowsA]))
end Go.Proofs.YtfpamehamllndaaGreatDoor
namespace Go.Proofs.YtfpamehamllndaaGreatDoor
open Go Go.Fi

def sizesP (p r : Nat) : Prop := ¬ (7 < p ∧ p ≤ 20 ∨ 22 < p ∨ 14 < r ∧ r ≤ 60 ∨ 62 < r)
instance (p r : Nat) : Decidable (sizesP p r) := inferInstanceAs (Decidable (¬ _))
def fewB (n : Net) : Bool := decide (sizesP n.places.length n.roads.length) && n.places.all (fun s => decide (s.size ≤ 20)) && n.roads.all (fun r => decide (r.name.size ≤ 20 ∧ r.pts.length ≤ 10))
theorem all_step {α : Type} [Inhabited α] (p : α → Bool) (l : List α) (k : Nat) (h : k < l.length) : (l.drop k).all p = (p (nth l k) && (l.drop (k + 1)).all p) := by
  rw [List.drop_eq_getElem_cons h, List.all_cons]
  simp [nth, List.getD_eq_getElem?_getD, List.getElem?_eq_getElem h]
theorem all_end {α : Type} (p : α → Bool) (l : List α) : (l.drop l.length).all p = true := by
  rw [List.drop_eq_nil_of_le (Nat.le_refl _)]; rfl
def okP (l : List ByteArray) : Bool := l.all (fun s => decide (s.size ≤ 20))
def okR (l : List Road) : Bool := l.all (fun r => decide (r.name.size ≤ 20 ∧ r.pts.length ≤ 10))
theorem few_no {n : Net} (h : ¬ sizesP n.places.length n.roads.length) : fewB n = false := by
  unfold fewB; rw [decide_eq_false h]; rfl
theorem few_eq {n : Net} (h : sizesP n.places.length n.roads.length) : fewB n = (okP n.places && okR n.roads) := by
  unfold fewB; rw [decide_eq_true h, Bool.true_and]; rfl
def okPd (l : List ByteArray) (k : Nat) : Bool := (l.drop k).all (fun s => decide (s.size ≤ 20))
def okRd (l : List Road) (k : Nat) : Bool := (l.drop k).all (fun r => decide (r.name.size ≤ 20 ∧ r.pts.length ≤ 10))
theorem okPd_step {l : List ByteArray} {k : Nat} (h : k < l.length) : okPd l k = (decide ((nth l k).size ≤ 20) && okPd l (k + 1)) := all_step _ l k h
theorem okRd_step {l : List Road} {k : Nat} (h : k < l.length) : okRd l k = (decide ((nth l k).name.size ≤ 20 ∧ (nth l k).pts.length ≤ 10) && okRd l (k + 1)) := all_step _ l k h
theorem okPd_end (l : List ByteArray) : okPd l l.length = true := all_end _ l
theorem okRd_end (l : List Road) : okRd l l.length = true := all_end _ l
set_option maxHeartbeats 4000000 in
theorem few_c (n : Net) : RealCall Tryz.prog 5 [aNet n] (.bool (fewB n)) true := by
  by_cases hs : sizesP n.places.length n.roads.length
  · have hB := few_eq hs
    generalize fewB n = B at *
    have kB := keep hB
    clear hB
    have hs2 := hs
    unfold sizesP at hs2
    unfold aNet cNet
    refine realcall_intro Tryz.func5 (by kernel_rfl) rfl (Nat.le_of_ble_eq_true (by kernel_rfl)) ?_
    simp only [Tryz.results5, Tryz.ntmps5]
    refine awp_seq ?_
    refine awp_region ?_
    simp
    refine awp_join (fun _ : Unit => True) 1 [1] (fun _ => []) (fun _ => [(0, [.w false false (.sl n.places.length (strs n.places)), .w false false (.sl n.roads.length (cRoads n.roads))])]) ?_ (fun _ _ => ?_)
    · have c1 : (7 < (n.places.length : Int) ∧ ¬ (n.places.length : Int) ≤ 20 ∧ ¬ 22 < (n.places.length : Int)) ∨ (¬ 7 < (n.places.length : Int) ∧ ¬ 22 < (n.places.length : Int)) := by omega
      have c2 : (14 < (n.roads.length : Int) ∧ ¬ (n.roads.length : Int) ≤ 60 ∧ ¬ 62 < (n.roads.length : Int)) ∨ (¬ 14 < (n.roads.length : Int) ∧ ¬ 62 < (n.roads.length : Int)) := by omega
      clear hs hs2
      rcases c1 with ⟨a1, a2, a3⟩ | ⟨a1, a3⟩ <;> rcases c2 with ⟨b1, b2, b3⟩ | ⟨b1, b3⟩
      all_goals
        repeat' (first | (with_reducible first | refine awp_seq ?_ | refine awp_skip ?_ | refine awp_region ?_ | refine awp_condM ?_ | intro _) | (simp [*]))
        (refine finW_intro () ?_ ?_; (· trivial); (refine le_of ?_ ?_ <;> first | trivial | (simp [*]; done)))
    · repeat' (first | (with_reducible first | refine awp_seq ?_ | refine awp_region ?_ | intro _) | (simp [*]))
      refine awp_for3 (fun (k : Nat) => k ≤ n.places.length ∧ okPd n.places k = okP n.places) [1] (fun (k : Nat) => [(3, .w false false (.int .i64 k))]) [0] (fun (k : Nat) => []) (fun (k : Nat) => n.places.length - k) (fun (_u : Unit) => okP n.places = true) [1] (fun (_u : Unit) => []) [0] (fun (_u : Unit) => []) (0) ⟨Nat.zero_le _, rfl⟩ (by simp) (by simp) (fun k hk => ?_) (fun _u hf => ?_)
      · obtain ⟨hk, hj⟩ := hk
        by_cases hlt : k < n.places.length
        · rw [okPd_step hlt] at hj
          have kj := keep hj
          clear hj
          repeat' (first | (with_reducible first | refine awp_seq ?_ | refine awp_blockS ?_ | refine awp_skip ?_ | refine awp_ret ?_ | refine awp_region ?_ | refine awp_condM ?_ | refine And.intro ?_ ?_ | refine condM_splitD ?_ ?_ | intro _) | (simp [*, hlt]))
          all_goals first
            | exact inI64 (by omega) (by omega)
            | omega
            | (rename_i h0; rw [kB, ← kj, decide_eq_false (show ¬ (nth n.places k).size ≤ 20 by omega)]; rfl)
            | (rename_i h0; (refine loopK_normal _ _ _ _ _ (k + 1) _ ?_ (by first | omega | (dsimp only; omega) | (simp; omega)) ?_; (· refine ⟨by omega, ?_⟩; rw [← kj, decide_eq_true (show (nth n.places k).size ≤ 20 by omega), Bool.true_and]); (refine le_of ?_ ?_ <;> first | trivial | (simp [*]; done))))
            | skip
        · have hke : k = n.places.length := by omega
          subst hke
          repeat' (first | (with_reducible first | refine awp_seq ?_ | refine awp_exit ?_ | refine awp_region ?_ | refine awp_condM ?_ | intro _) | (simp [*]))
          all_goals (refine finW_intro () ?_ ?_; (· rw [← hj, okPd_end]); (refine le_of ?_ ?_ <;> first | trivial | (simp [*]; done)))
      · rw [hf, Bool.true_and] at kB
        repeat' (first | (with_reducible first | refine awp_seq ?_ | refine awp_region ?_ | intro _) | (simp [*]))
        refine awp_for3 (fun (k : Nat) => k ≤ n.roads.length ∧ okRd n.roads k = okR n.roads) [1] (fun (k : Nat) => [(4, .w false false (.int .i64 k))]) [0] (fun (k : Nat) => []) (fun (k : Nat) => n.roads.length - k) (fun (_u : Unit) => okR n.roads = true) [] (fun (_u : Unit) => []) [0] (fun (_u : Unit) => []) (0) ⟨Nat.zero_le _, rfl⟩ (by simp) (by simp) (fun k hk => ?_) (fun _u hf => ?_)
        · obtain ⟨hk, hj⟩ := hk
          by_cases hlt : k < n.roads.length
          · rw [okRd_step hlt] at hj
            have kj := keep hj
            clear hj
            repeat' (first | (with_reducible first | refine awp_seq ?_ | refine awp_blockS ?_ | refine awp_skip ?_ | refine awp_ret ?_ | refine awp_region ?_ | refine awp_condM ?_ | refine And.intro ?_ ?_ | refine gE_splitDN ?_ ?_ | refine condM_splitD ?_ ?_ | intro _) | (simp [*, hlt]))
            all_goals first
              | exact inI64 (by omega) (by omega)
              | omega
              | (rw [kB, ← kj, decide_eq_false (show ¬ ((nth n.roads k).name.size ≤ 20 ∧ (nth n.roads k).pts.length ≤ 10) by omega)]; rfl)
              | ((refine loopK_normal _ _ _ _ _ (k + 1) _ ?_ (by first | omega | (dsimp only; omega) | (simp; omega)) ?_; (· refine ⟨by omega, ?_⟩; rw [← kj, decide_eq_true (show (nth n.roads k).name.size ≤ 20 ∧ (nth n.roads k).pts.length ≤ 10 by omega), Bool.true_and]); (refine le_of ?_ ?_ <;> first | trivial | (simp [*]; done))))
              | skip
          · have hke : k = n.roads.length := by omega
            subst hke
            repeat' (first | (with_reducible first | refine awp_seq ?_ | refine awp_exit ?_ | refine awp_region ?_ | refine awp_condM ?_ | intro _) | (simp [*]))
            all_goals (refine finW_intro () ?_ ?_; (· rw [← hj, okRd_end]); (refine le_of ?_ ?_ <;> first | trivial | (simp [*]; done)))
        · rw [hf] at kB
          repeat' (first | (with_reducible first | refine awp_seq ?_ | refine awp_ret ?_ | refine awp_region ?_ | intro _) | (simp [*]))
          all_goals exact kB
  · rw [few_no hs]
    unfold sizesP at hs
    unfold aNet cNet
    refine realcall_intro Tryz.func5 (by kernel_rfl) rfl (Nat.le_of_ble_eq_true (by kernel_rfl)) ?_
    simp only [Tryz.results5, Tryz.ntmps5]
    refine awp_seq ?_
    refine awp_region ?_
    simp
    refine awp_join (fun _ : Unit => False) 1 [] (fun _ => []) (fun _ => []) ?_ (fun _ hf => hf.elim)
    have c1 : (7 < (n.places.length : Int) ∧ (n.places.length : Int) ≤ 20) ∨ (7 < (n.places.length : Int) ∧ ¬ (n.places.length : Int) ≤ 20 ∧ 22 < (n.places.length : Int)) ∨
      (((7 < (n.places.length : Int) ∧ ¬ (n.places.length : Int) ≤ 20 ∧ ¬ 22 < (n.places.length : Int)) ∨ (¬ 7 < (n.places.length : Int) ∧ ¬ 22 < (n.places.length : Int))) ∧
       ((14 < (n.roads.length : Int) ∧ (n.roads.length : Int) ≤ 60) ∨ (14 < (n.roads.length : Int) ∧ ¬ (n.roads.length : Int) ≤ 60 ∧ 62 < (n.roads.length : Int)))) := by omega
    clear hs
    rcases c1 with ⟨a1, a2⟩ | ⟨a1, a2, a3⟩ | ⟨⟨a1, a2, a3⟩ | ⟨a1, a3⟩, ⟨b1, b2⟩ | ⟨b1, b2, b3⟩⟩
    all_goals
      repeat' (first | (with_reducible first | refine awp_seq ?_ | refine awp_ret ?_ | refine awp_region ?_ | refine awp_condM ?_ | intro _) | (simp [*]))
theorem few_in {n : Net} (h : fewB n = true) : NetIn n := by
  unfold fewB at h
  simp only [Bool.and_eq_true, decide_eq_true_eq, List.all_eq_true] at h
  obtain ⟨⟨h1, h2⟩, h3⟩ := h
  unfold sizesP at h1
  refine ⟨by omega, by omega, fun k hk => ?_, fun k hk => ?_, fun k hk => ?_⟩
  · have := h2 _ (nth_mem hk); omega
  · have := h3 _ (nth_mem hk); omega
  · have := h3 _ (nth_mem hk); omega
end Go.Proofs.YtfpamehamllndaaGreatDoor
namespace Go.Proofs.YtfpamehamllndaaGreatDoor
open Go Go.Fi

end Go.Proofs.YtfpamehamllndaaGreatDoor

