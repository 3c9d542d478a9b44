/- Contracts of functions for this claim: lemmas alone. -/
import Derived.Test.YtmkahgnfoefnjaaP47
set_option linter.unusedSimpArgs false
set_option linter.unusedVariables false
namespace Go.Proofs.Ytmkahgnfoefnjaa
open Go Go.Fi

/-! which places are reached without a road -/
inductive ReachB (n : Net) (but : Int) (a : Nat) : Nat → Prop
  | here : ReachB n but a a
  | road (k : Nat) (hk : k < n.roads.length) (hb : (k : Int) ≠ but) (h : ReachB n but a (nth n.roads k).frm.toNat) : ReachB n but a (nth n.roads k).to.toNat
def bls (l : List Bool) : List PV := l.map .bool
@[simp] theorem bls_len (l : List Bool) : (bls l).length = l.length := by simp [bls]
@[simp] theorem bls_get (l : List Bool) (k : Nat) (h : k < l.length) : nthP (bls l) k = .bool (nth l k) := nthP_map _ l k h
@[simp] theorem bls_flat : ∀ l : List Bool, flatL (bls l) = true
  | [] => rfl
  | x :: r => by have := bls_flat r; simpa [bls, flatL] using this
def bA (l : List Bool) : List AV := (bls l).map (AV.w false false)
@[simp] theorem bA_len (l : List Bool) : (bA l).length = l.length := by simp [bA]
@[simp] theorem bA_get (l : List Bool) (i : Nat) (h : i < l.length) : nthA (bA l) i = .w false false (.bool (nth l i)) := by
  unfold bA; rw [nthA_map _ _ _ (by simpa using h), bls_get l i h]
@[simp] theorem bA_set (l : List Bool) (i : Nat) (v : Bool) : (bA l).set i (.w false false (.bool v)) = bA (l.set i v) := by
  simp [bA, bls, List.map_set]
@[simp] theorem bA_lt (l : List Bool) (n : Nat) : AV.lt.ltL n (bA l) = true := ltL_map n false false (bls l)
@[simp] theorem bA_self {D : List Nat} {h : Heap} {n n' : Nat} (l : List Bool) : cellsLe D h n n' (bA l) (bA l) = True := eq_true (cellsLe_w false false _)
@[simp high] theorem bA_frz (h : Heap) (d : Nat) (l : List Bool) : (bA l).mapM (frz h d) = some (bls l) := mapM_frz h d false false (bls l)
@[simp high] theorem bA_fresh (h : Heap) (d : Nat) (l : List Bool) : (bA l).all (freshA h d) = true := all_flat h d false false (bls l) (bls_flat l)
@[simp] theorem bA_repl (n : Nat) : bA (List.replicate n false) = List.replicate n (.w false false (.bool false)) := by simp [bA, bls]
theorem nthB_set (l : List Bool) (i j : Nat) (v : Bool) (h : i < l.length) : nth (l.set i v) j = if i = j then v else nth l j := by
  unfold nth
  rw [List.getD_eq_getElem?_getD, List.getElem?_set]
  split
  · rename_i e; subst e; first | rfl | (rw [if_pos h]; rfl)
  · rw [List.getD_eq_getElem?_getD]
theorem nthB_repl (m i : Nat) (h : i < m) : nth (List.replicate m false) i = false := by
  simp [nth, List.getD_eq_getElem?_getD, h]
/-- how many are not reached yet -/
def fl : List Bool → Nat
  | [] => 0
  | b :: r => (if b = true then 0 else 1) + fl r
theorem fl_set : ∀ (l : List Bool) (i : Nat), i < l.length → nth l i = false → fl (l.set i true) + 1 = fl l
  | [], i, h, _ => by simp at h
  | b :: r, 0, _, h => by
    have h : b = false := h
    subst h; simp [fl]; omega
  | b :: r, i + 1, h, hn => by
    have := fl_set r i (by simpa using h) (by rw [nth_succ] at hn; exact hn)
    simp only [List.set_cons_succ, fl]; omega
structure Good (n : Net) (but : Int) (a : Nat) (s : List Bool) : Prop where
  len : s.length = n.places.length
  la : nth s a = true
  rc : ∀ i, i < n.places.length → nth s i = true → ReachB n but a i
def ClosedTo (n : Net) (but : Int) (s : List Bool) (k : Nat) : Prop := ∀ j, j < k → (j : Int) ≠ but → nth s (nth n.roads j).frm.toNat = true → nth s (nth n.roads j).to.toNat = true
theorem good_full {n : Net} (h : NetOk n) {but : Int} {a : Nat} {s : List Bool} (hs : Good n but a s) (hc : ClosedTo n but s n.roads.length) {i : Nat} (hr : ReachB n but a i) : nth s i = true := by
  induction hr with
  | here => exact hs.la
  | road k hk hb _ ih => exact hc k hk hb ih
/-- the places reached, in one list -/
noncomputable def reachL (n : Net) (but : Int) (a : Nat) : List Bool := (List.range n.places.length).map fun i => @decide (ReachB n but a i) (Classical.propDecidable _)
theorem reachL_len (n : Net) (but : Int) (a : Nat) : (reachL n but a).length = n.places.length := by simp [reachL]
theorem reachL_nth (n : Net) (but : Int) (a i : Nat) (h : i < n.places.length) : nth (reachL n but a) i = true ↔ ReachB n but a i := by
  simp [reachL, nth, List.getD_eq_getElem?_getD, h]
theorem good_eq {n : Net} (h : NetOk n) {but : Int} {a : Nat} {s : List Bool} (hs : Good n but a s) (hc : ClosedTo n but s n.roads.length) : s = reachL n but a := by
  have hl := reachL_len n but a
  apply List.ext_getElem
  · rw [hs.len, hl]
  · intro i h1 h2
    have e1 : s[i] = nth s i := by simp [nth, List.getD_eq_getElem?_getD, List.getElem?_eq_getElem h1]
    have e2 : (reachL n but a)[i] = nth (reachL n but a) i := by simp [nth, List.getD_eq_getElem?_getD, List.getElem?_eq_getElem h2]
    have hi : i < n.places.length := by rw [← hs.len]; exact h1
    rw [e1, e2]
    have iff := reachL_nth n but a i hi
    cases h3 : nth s i with
    | true => exact ((iff.2 (hs.rc i hi h3))).symm
    | false =>
      cases h4 : nth (reachL n but a) i with
      | false => rfl
      | true =>
        have := good_full h hs hc (iff.1 h4)
        rw [h3] at this; cases this
def cntB (b : Bool) : Nat := if b = true then 1 else 0
set_option maxHeartbeats 8000000 in
set_option maxRecDepth 20000 in
theorem reached_c (n : Net) (h : NetOk n) (a : Nat) (la : a < n.places.length) (but : Int) :
    RealCall Try.prog 26 [aNet n, .int .i64 a, .int .i64 but] (.sl n.places.length (bls (reachL n but a))) true := by
  have hnp := h.np
  have hnr := h.nr
  have g0 : Good n but a ((List.replicate n.places.length false).set a true) := by
    refine ⟨by simp, ?_, fun i hi hs => ?_⟩
    · rw [nthB_set _ _ _ _ (by simpa using la), if_pos rfl]
    · rw [nthB_set _ _ _ _ (by simpa using la)] at hs
      split at hs
      · rename_i e; subst e; exact .here
      · rw [nthB_repl _ _ hi] at hs; cases hs
  have e0 : (bA (List.replicate n.places.length false)).set a (.w false false (.bool true)) = bA ((List.replicate n.places.length false).set a true) := bA_set _ _ _
  rw [bA_repl] at e0
  have kg := keep g0
  have kh := keep h
  clear g0 h
  have hlr : (List.replicate n.places.length (AV.w false false (PV.bool false))).length = n.places.length := List.length_replicate
  unfold aNet cNet
  refine realcall_intro Try.func26 (by kernel_rfl) rfl (Nat.le_of_ble_eq_true (by kernel_rfl)) ?_
  simp only [Try.results26, Try.ntmps26]
  repeat' (first | (with_reducible first | refine awp_seq ?_ | refine awp_blockS ?_ | refine awp_blockC ?_ | refine awp_blockR ?_ | refine awp_skip ?_ | refine awp_ret ?_ | refine awp_exit ?_ | refine awp_region ?_ | refine awp_condM ?_ | refine And.intro ?_ ?_ | refine gE_splitN ?_ ?_ | refine gE_split ?_ ?_ | refine gQ_splitN ?_ ?_ | refine gQ_split ?_ ?_ | refine gM_splitN ?_ ?_ | refine gM_split ?_ ?_ | refine condM_splitDN ?_ ?_ | refine condM_splitD ?_ ?_ | refine condM_splitN ?_ ?_ | refine condM_split ?_ ?_ | refine condM_any ?_ ?_ | intro _) | (simp [*, la, e0]))
  all_goals try omega
  generalize (List.replicate n.places.length false).set a true = s0 at *
  clear e0
  refine awp_for3 (fun (x : List Bool × Bool) => Good n but a x.1 ∧ (x.2 = false → ClosedTo n but x.1 n.roads.length)) [2, 3, 7] (fun (x : List Bool × Bool) => [(8, .w false false (.bool x.2))]) [0] (fun (x : List Bool × Bool) => [(1, bA x.1)]) (fun (x : List Bool × Bool) => 2 * fl x.1 + cntB x.2) (fun (_u : Unit) => True) [7] (fun (_u : Unit) => []) [] (fun (_u : Unit) => [(1, bA (reachL n but a))]) ((s0, true)) ⟨kg, fun h => by cases h⟩ (by simp) (by simp) (fun x hk => ?_) (fun _u hf => ?_)
  · obtain ⟨s, c⟩ := x
    obtain ⟨hg, hc⟩ := hk
    dsimp only at hg hc ⊢
    cases c with
    | false =>
      have e := good_eq kh hg (hc rfl)
      subst e
      clear hg hc
      repeat' (first | (with_reducible first | refine awp_seq ?_ | refine awp_blockS ?_ | refine awp_blockC ?_ | refine awp_blockR ?_ | refine awp_skip ?_ | refine awp_ret ?_ | refine awp_exit ?_ | refine awp_region ?_ | refine awp_condM ?_ | refine And.intro ?_ ?_ | refine gE_splitN ?_ ?_ | refine gE_split ?_ ?_ | refine gQ_splitN ?_ ?_ | refine gQ_split ?_ ?_ | refine gM_splitN ?_ ?_ | refine gM_split ?_ ?_ | refine condM_splitDN ?_ ?_ | refine condM_splitD ?_ ?_ | refine condM_splitN ?_ ?_ | refine condM_split ?_ ?_ | refine condM_any ?_ ?_ | intro _) | (simp [*]))
      (refine finW_intro () ?_ ?_; (· trivial); (refine le_of ?_ ?_ <;> first | trivial | (simp [*]; done)))
    | true =>
      have kgs := keep hg
      clear hg hc
      repeat' (first | (with_reducible first | refine awp_seq ?_ | refine awp_blockS ?_ | refine awp_blockC ?_ | refine awp_blockR ?_ | refine awp_skip ?_ | refine awp_ret ?_ | refine awp_exit ?_ | refine awp_region ?_ | refine awp_condM ?_ | refine And.intro ?_ ?_ | refine gE_splitN ?_ ?_ | refine gE_split ?_ ?_ | refine gQ_splitN ?_ ?_ | refine gQ_split ?_ ?_ | refine gM_splitN ?_ ?_ | refine gM_split ?_ ?_ | refine condM_splitDN ?_ ?_ | refine condM_splitD ?_ ?_ | refine condM_splitN ?_ ?_ | refine condM_split ?_ ?_ | refine condM_any ?_ ?_ | intro _) | (simp [*]))
      refine awp_for3 (fun (y : Nat × List Bool × Bool) => y.1 ≤ n.roads.length ∧ Good n but a y.2.1 ∧ fl y.2.1 + cntB y.2.2 ≤ fl s ∧ (y.2.2 = false → ClosedTo n but y.2.1 y.1)) [2, 3, 7, 22, 23] (fun (y : Nat × List Bool × Bool) => [(8, .w false false (.bool y.2.2)), (24, .w false false (.int .i64 y.1))]) [0] (fun (y : Nat × List Bool × Bool) => [(1, bA y.2.1)]) (fun (y : Nat × List Bool × Bool) => n.roads.length - y.1) (fun (z : List Bool × Bool) => Good n but a z.1 ∧ fl z.1 + cntB z.2 ≤ fl s ∧ (z.2 = false → ClosedTo n but z.1 n.roads.length)) [2, 3, 7] (fun (z : List Bool × Bool) => [(8, .w false false (.bool z.2))]) [0] (fun (z : List Bool × Bool) => [(1, bA z.1)]) (((0 : Nat), s, false)) ⟨Nat.zero_le _, kgs, by dsimp only; unfold cntB; simp, fun _ j hj => absurd hj (Nat.not_lt_zero _)⟩ (by simp) (by simp) (fun y hk => ?_) (fun z hf => ?_)
      · obtain ⟨k, u, c⟩ := y
        obtain ⟨hk, hg, hf, hc⟩ := hk
        dsimp only at hk hg hf hc ⊢
        by_cases hlt : k < n.roads.length
        · have hok := kh.road k hlt
          have f1 := hok.frm
          have f2 := hok.to
          clear hok
          have hll := hg.len
          have t1 : (nth n.roads k).frm.toNat < n.places.length := by omega
          have t2 : (nth n.roads k).to.toNat < n.places.length := by omega
          -- a road that changes nothing
          have stay : ((k : Int) = but ∨ nth u (nth n.roads k).frm.toNat = false ∨ nth u (nth n.roads k).to.toNat = true) → (c = false → ClosedTo n but u (k + 1)) := fun h hcf j hj hb hfr => by
            by_cases e : j = k
            · subst e
              rcases h with h | h | h
              · exact absurd h hb
              · rw [h] at hfr; cases hfr
              · exact h
            · exact hc hcf j (by omega) hb hfr
          by_cases c1 : (k : Int) = but
          · have kj := keep (And.intro hg (And.intro hf (stay (.inl c1))))
            clear hg hf hc stay
            generalize hr : nth n.roads k = r at *
            subst c1
            repeat' (first | (with_reducible first | refine awp_seq ?_ | refine awp_blockS ?_ | refine awp_blockC ?_ | refine awp_blockR ?_ | refine awp_skip ?_ | refine awp_ret ?_ | refine awp_exit ?_ | refine awp_region ?_ | refine awp_condM ?_ | refine And.intro ?_ ?_ | refine gE_splitN ?_ ?_ | refine gE_split ?_ ?_ | refine gQ_splitN ?_ ?_ | refine gQ_split ?_ ?_ | refine gM_splitN ?_ ?_ | refine gM_split ?_ ?_ | refine condM_splitDN ?_ ?_ | refine condM_splitD ?_ ?_ | refine condM_splitN ?_ ?_ | refine condM_split ?_ ?_ | refine condM_any ?_ ?_ | intro _) | (simp [*, hlt, hr, cRoad, t1, t2, hll]))
            all_goals first
              | exact inI64 (by omega) (by omega)
              | omega
              | (refine loopK_normal _ _ _ _ _ (k + 1, u, c) _ ?_ (by first | omega | (dsimp only; omega) | (simp; omega)) ?_; (· exact ⟨by dsimp only; omega, kj⟩); (refine le_of ?_ ?_ <;> first | trivial | (simp [*]; done)))
              | skip
          · cases c2 : nth u (nth n.roads k).frm.toNat with
            | false =>
              have kj := keep (And.intro hg (And.intro hf (stay (.inr (.inl c2)))))
              clear hg hf hc stay
              generalize hr : nth n.roads k = r at *
              repeat' (first | (with_reducible first | refine awp_seq ?_ | refine awp_blockS ?_ | refine awp_blockC ?_ | refine awp_blockR ?_ | refine awp_skip ?_ | refine awp_ret ?_ | refine awp_exit ?_ | refine awp_region ?_ | refine awp_condM ?_ | refine And.intro ?_ ?_ | refine gE_splitN ?_ ?_ | refine gE_split ?_ ?_ | refine gQ_splitN ?_ ?_ | refine gQ_split ?_ ?_ | refine gM_splitN ?_ ?_ | refine gM_split ?_ ?_ | refine condM_splitDN ?_ ?_ | refine condM_splitD ?_ ?_ | refine condM_splitN ?_ ?_ | refine condM_split ?_ ?_ | refine condM_any ?_ ?_ | intro _) | (simp [*, hlt, hr, cRoad, c1, c2, t1, t2, hll]))
              all_goals first
                | exact inI64 (by omega) (by omega)
                | omega
                | (refine loopK_normal _ _ _ _ _ (k + 1, u, c) _ ?_ (by first | omega | (dsimp only; omega) | (simp; omega)) ?_; (· exact ⟨by dsimp only; omega, kj⟩); (refine le_of ?_ ?_ <;> first | trivial | (simp [*]; done)))
                | skip
            | true =>
              cases c3 : nth u (nth n.roads k).to.toNat with
              | true =>
                have kj := keep (And.intro hg (And.intro hf (stay (.inr (.inr c3)))))
                clear hg hf hc stay
                generalize hr : nth n.roads k = r at *
                repeat' (first | (with_reducible first | refine awp_seq ?_ | refine awp_blockS ?_ | refine awp_blockC ?_ | refine awp_blockR ?_ | refine awp_skip ?_ | refine awp_ret ?_ | refine awp_exit ?_ | refine awp_region ?_ | refine awp_condM ?_ | refine And.intro ?_ ?_ | refine gE_splitN ?_ ?_ | refine gE_split ?_ ?_ | refine gQ_splitN ?_ ?_ | refine gQ_split ?_ ?_ | refine gM_splitN ?_ ?_ | refine gM_split ?_ ?_ | refine condM_splitDN ?_ ?_ | refine condM_splitD ?_ ?_ | refine condM_splitN ?_ ?_ | refine condM_split ?_ ?_ | refine condM_any ?_ ?_ | intro _) | (simp [*, hlt, hr, cRoad, c1, c2, c3, t1, t2, hll]))
                all_goals first
                  | exact inI64 (by omega) (by omega)
                  | omega
                  | (refine loopK_normal _ _ _ _ _ (k + 1, u, c) _ ?_ (by first | omega | (dsimp only; omega) | (simp; omega)) ?_; (· exact ⟨by dsimp only; omega, kj⟩); (refine le_of ?_ ?_ <;> first | trivial | (simp [*]; done)))
                  | skip
              | false =>
                have hlu : (nth n.roads k).to.toNat < u.length := by omega
                have hfs := fl_set u _ hlu c3
                have hg' : Good n but a (u.set (nth n.roads k).to.toNat true) := by
                  refine ⟨by simp [hll], ?_, fun i hi hs => ?_⟩
                  · rw [nthB_set _ _ _ _ hlu]; split
                    · rfl
                    · exact hg.la
                  · rw [nthB_set _ _ _ _ hlu] at hs
                    split at hs
                    · rename_i e; subst e
                      exact .road k hlt c1 (hg.rc _ t1 c2)
                    · exact hg.rc i hi hs
                have hf' : fl (u.set (nth n.roads k).to.toNat true) + cntB true ≤ fl s := by unfold cntB at *; simp; omega
                have kj := keep (And.intro hg' hf')
                clear hg hf hc stay hg' hf' hfs
                generalize hr : nth n.roads k = r at *
                repeat' (first | (with_reducible first | refine awp_seq ?_ | refine awp_blockS ?_ | refine awp_blockC ?_ | refine awp_blockR ?_ | refine awp_skip ?_ | refine awp_ret ?_ | refine awp_exit ?_ | refine awp_region ?_ | refine awp_condM ?_ | refine And.intro ?_ ?_ | refine gE_splitN ?_ ?_ | refine gE_split ?_ ?_ | refine gQ_splitN ?_ ?_ | refine gQ_split ?_ ?_ | refine gM_splitN ?_ ?_ | refine gM_split ?_ ?_ | refine condM_splitDN ?_ ?_ | refine condM_splitD ?_ ?_ | refine condM_splitN ?_ ?_ | refine condM_split ?_ ?_ | refine condM_any ?_ ?_ | intro _) | (simp [*, hlt, hr, cRoad, c1, c2, c3, t1, t2, hll]))
                all_goals first
                  | exact inI64 (by omega) (by omega)
                  | omega
                  | (refine loopK_normal _ _ _ _ _ (k + 1, u.set r.to.toNat true, true) _ ?_ (by first | omega | (dsimp only; omega) | (simp; omega)) ?_; (· exact ⟨by dsimp only; omega, kj.1, kj.2, fun h => by cases h⟩); (refine le_of ?_ ?_ <;> first | trivial | (simp [*]; done)))
                  | skip
        · have hke : k = n.roads.length := by omega
          subst hke
          have kj := keep (And.intro hg (And.intro hf hc))
          clear hg hf hc
          repeat' (first | (with_reducible first | refine awp_seq ?_ | refine awp_blockS ?_ | refine awp_blockC ?_ | refine awp_blockR ?_ | refine awp_skip ?_ | refine awp_ret ?_ | refine awp_exit ?_ | refine awp_region ?_ | refine awp_condM ?_ | refine And.intro ?_ ?_ | refine gE_splitN ?_ ?_ | refine gE_split ?_ ?_ | refine gQ_splitN ?_ ?_ | refine gQ_split ?_ ?_ | refine gM_splitN ?_ ?_ | refine gM_split ?_ ?_ | refine condM_splitDN ?_ ?_ | refine condM_splitD ?_ ?_ | refine condM_splitN ?_ ?_ | refine condM_split ?_ ?_ | refine condM_any ?_ ?_ | intro _) | (simp [*]))
          (refine finW_intro (u, c) ?_ ?_; (· exact kj); (refine le_of ?_ ?_ <;> first | trivial | (simp [*]; done)))
      · obtain ⟨u, c⟩ := z
        obtain ⟨hg, hfz, hc⟩ := hf
        dsimp only at hg hfz hc ⊢
        have kj := keep (And.intro hg hc)
        have hmu : 2 * fl u + cntB c < 2 * fl s + cntB true := by
          unfold cntB at *
          cases c <;> simp at * <;> omega
        clear hg hc hfz
        repeat' (first | (with_reducible first | refine awp_seq ?_ | refine awp_blockS ?_ | refine awp_blockC ?_ | refine awp_blockR ?_ | refine awp_skip ?_ | refine awp_ret ?_ | refine awp_exit ?_ | refine awp_region ?_ | refine awp_condM ?_ | refine And.intro ?_ ?_ | refine gE_splitN ?_ ?_ | refine gE_split ?_ ?_ | refine gQ_splitN ?_ ?_ | refine gQ_split ?_ ?_ | refine gM_splitN ?_ ?_ | refine gM_split ?_ ?_ | refine condM_splitDN ?_ ?_ | refine condM_splitD ?_ ?_ | refine condM_splitN ?_ ?_ | refine condM_split ?_ ?_ | refine condM_any ?_ ?_ | intro _) | (simp [*]))
        all_goals first
          | (refine loopK_normal _ _ _ _ _ (u, c) _ ?_ hmu ?_; (· exact kj); (refine le_of ?_ ?_ <;> first | trivial | (simp [*]; done)))
          | skip
  · have hRl := reachL_len n but a
    repeat' (first | (with_reducible first | refine awp_seq ?_ | refine awp_blockS ?_ | refine awp_blockC ?_ | refine awp_blockR ?_ | refine awp_skip ?_ | refine awp_ret ?_ | refine awp_exit ?_ | refine awp_region ?_ | refine awp_condM ?_ | refine And.intro ?_ ?_ | refine gE_splitN ?_ ?_ | refine gE_split ?_ ?_ | refine gQ_splitN ?_ ?_ | refine gQ_split ?_ ?_ | refine gM_splitN ?_ ?_ | refine gM_split ?_ ?_ | refine condM_splitDN ?_ ?_ | refine condM_splitD ?_ ?_ | refine condM_splitN ?_ ?_ | refine condM_split ?_ ?_ | refine condM_any ?_ ?_ | intro _) | (simp [*, hRl]))
end Go.Proofs.Ytmkahgnfoefnjaa
