/- Contracts of functions for this claim: lemmas alone. -/
import Derived.Test.YtmkahgnfoefnjaaP72
import Derived.Test.YtmkahgnfoefnjaaP80
import Derived.Test.YtmkahgnfoefnjaaLq
set_option linter.unusedSimpArgs false
set_option linter.unusedVariables false
namespace Go.Proofs.Ytmkahgnfoefnjaa
open Go Go.Fi
set_option maxRecDepth 20000

def cRow (r : List Int) : PV := .sl r.length (ints r)
def cRows (m : List (List Int)) : List PV := m.map cRow
@[simp] theorem cRows_len (m : List (List Int)) : (cRows m).length = m.length := by simp [cRows]
@[simp] theorem cRows_get (m : List (List Int)) (k : Nat) (h : k < m.length) : nthP (cRows m) k = .sl (nth m k).length (ints (nth m k)) := nthP_map cRow m k h
def bRow (r : List Bool) : PV := .sl r.length (bls r)
def bRows (m : List (List Bool)) : List PV := m.map bRow
@[simp] theorem bRows_len (m : List (List Bool)) : (bRows m).length = m.length := by simp [bRows]
@[simp] theorem bRows_get (m : List (List Bool)) (k : Nat) (h : k < m.length) : nthP (bRows m) k = .sl (nth m k).length (bls (nth m k)) := nthP_map bRow m k h

set_option maxHeartbeats 4000000 in
theorem rowIdx_c (l : List (List Int)) (g : Nat) (caps : List PV) (p : List Int → Bool) (hl : l.length < 1000) (hp : ∀ k, k < l.length → RealCall Try.prog g (.sl (nth l k).length (ints (nth l k)) :: caps) (.bool (p (nth l k))) true) :
    RealCall Try.prog 28 [.sl l.length (cRows l), .fn g caps] (.int .i64 (idxS p l)) true := by
  refine realcall_intro Try.func28 (by kernel_rfl) rfl (Nat.le_of_ble_eq_true (by kernel_rfl)) ?_
  simp only [Try.results28, Try.ntmps28]
  repeat' (first | (with_reducible first | refine awp_seq ?_ | refine awp_blockS ?_ | refine awp_blockC ?_ | refine awp_blockR ?_ | refine awp_skip ?_ | refine awp_ret ?_ | refine awp_exit ?_ | refine awp_region ?_ | refine awp_condM ?_ | refine And.intro ?_ ?_ | refine gE_splitN ?_ ?_ | refine gE_split ?_ ?_ | refine gQ_splitN ?_ ?_ | refine gQ_split ?_ ?_ | refine gM_splitN ?_ ?_ | refine gM_split ?_ ?_ | refine condM_splitDN ?_ ?_ | refine condM_splitD ?_ ?_ | refine condM_splitN ?_ ?_ | refine condM_split ?_ ?_ | refine condM_any ?_ ?_ | intro _) | (simp [*]))
  refine awp_for3 (fun (k : Nat) => k ≤ l.length ∧ idxFrom p l (l.length - k) k = idxS p l) [0, 1, 7] (fun (k : Nat) => [(8, .w false false (.int .i64 k))]) [] (fun (k : Nat) => []) (fun (k : Nat) => l.length - k) (fun (_u : Unit) => idxS p l = -1) [] (fun (_u : Unit) => []) [] (fun (_u : Unit) => []) (0) ⟨Nat.zero_le _, rfl⟩ (by simp) (by simp) (fun k hk => ?_) (fun _u hf => ?_)
  · obtain ⟨hk, hf⟩ := hk
    have hc := hp k
    clear hp
    repeat' (first | (with_reducible first | refine awp_seq ?_ | refine awp_blockS ?_ | refine awp_blockC ?_ | refine awp_blockR ?_ | refine awp_skip ?_ | refine awp_ret ?_ | refine awp_exit ?_ | refine awp_region ?_ | refine awp_condM ?_ | refine And.intro ?_ ?_ | refine gE_splitN ?_ ?_ | refine gE_split ?_ ?_ | refine gQ_splitN ?_ ?_ | refine gQ_split ?_ ?_ | refine gM_splitN ?_ ?_ | refine gM_split ?_ ?_ | refine condM_splitDN ?_ ?_ | refine condM_splitD ?_ ?_ | refine condM_splitN ?_ ?_ | refine condM_split ?_ ?_ | refine condM_any ?_ ?_ | refine cw (hc (by omega)) ?_ | intro _) | (simp [*]))
    all_goals first
      | exact inI64 (by omega) (by omega)
      | omega
      | (rename_i h0; rw [← hf, idxFrom_hit _ l k (by omega) (by simpa using h0)]; done)
      | (rename_i h0; rw [← hf, idxFrom_hit _ l k (by omega) (by simpa using h0)]; simp; done)
      | (rename_i h0; (refine loopK_normal _ _ _ _ _ (k + 1) _ ?_ (by first | omega | (dsimp only; omega) | (simp; omega)) ?_; (· refine ⟨by omega, ?_⟩; rw [← hf, idxFrom_miss _ l k (by omega) (by simpa using h0)]); (refine le_of ?_ ?_ <;> first | trivial | (simp [*]; done))))
      | (refine finW_intro () ?_ ?_; (· rw [← hf, idxFrom_end _ l k (by omega)]); (refine le_of ?_ ?_ <;> first | trivial | (simp [*]; done)))
      | skip
  · repeat' (first | (with_reducible first | refine awp_seq ?_ | refine awp_blockS ?_ | refine awp_blockC ?_ | refine awp_blockR ?_ | refine awp_skip ?_ | refine awp_ret ?_ | refine awp_exit ?_ | refine awp_region ?_ | refine awp_condM ?_ | refine And.intro ?_ ?_ | refine gE_splitN ?_ ?_ | refine gE_split ?_ ?_ | refine gQ_splitN ?_ ?_ | refine gQ_split ?_ ?_ | refine gM_splitN ?_ ?_ | refine gM_split ?_ ?_ | refine condM_splitDN ?_ ?_ | refine condM_splitD ?_ ?_ | refine condM_splitN ?_ ?_ | refine condM_split ?_ ?_ | refine condM_any ?_ ?_ | intro _) | (simp [*]))
set_option maxHeartbeats 4000000 in
theorem islFn_c (A : List (List Bool)) (i a : Nat) (l : List Int) (hl : 0 < l.length) (h0 : nth l 0 = (a : Int)) (hA : A.length < 1000) (hi : i < A.length) (ha : a < A.length) (hr : ∀ k, k < A.length → (nth A k).length = A.length) :
    RealCall Try.prog 29 [.sl l.length (ints l), .ip [.sl A.length (bRows A)] 0, .ip [.int .i64 i] 0] (.bool (nth (nth A i) a && nth (nth A a) i)) true := by
  have h1 := hr i hi
  have h2 := hr a ha
  clear hr
  refine realcall_intro Try.func29 (by kernel_rfl) rfl (Nat.le_of_ble_eq_true (by kernel_rfl)) ?_
  simp only [Try.results29, Try.ntmps29]
  repeat' (first | (with_reducible first | refine awp_seq ?_ | refine awp_blockS ?_ | refine awp_blockC ?_ | refine awp_blockR ?_ | refine awp_skip ?_ | refine awp_ret ?_ | refine awp_exit ?_ | refine awp_region ?_ | refine awp_regionD (id := 1) 21 mixed (by decide +kernel) ?_ | refine awp_condM ?_ | refine And.intro ?_ ?_ | refine gE_splitN ?_ ?_ | refine gE_split ?_ ?_ | refine gQ_splitN ?_ ?_ | refine gQ_split ?_ ?_ | refine gM_splitN ?_ ?_ | refine gM_split ?_ ?_ | refine condM_splitDN ?_ ?_ | refine condM_splitD ?_ ?_ | refine condM_splitN ?_ ?_ | refine condM_split ?_ ?_ | refine condM_any ?_ ?_ | intro _) | (simp [*, h0, h1, h2]))
set_option maxHeartbeats 4000000 in
theorem lists_c (l : List (List Int)) (h : l.length < 100000) (hr : ∀ k, k < l.length → (nth l k).length < 100000) : RealCall Try.prog 11 [.sl l.length (cRows l), .sl l.length (cRows l)] (.bool true) true := by
  refine realcall_intro Try.func11 (by kernel_rfl) rfl (Nat.le_of_ble_eq_true (by kernel_rfl)) ?_
  simp only [Try.results11, Try.ntmps11]
  repeat' (first | (with_reducible first | refine awp_seq ?_ | refine awp_blockS ?_ | refine awp_blockC ?_ | refine awp_blockR ?_ | refine awp_skip ?_ | refine awp_ret ?_ | refine awp_exit ?_ | refine awp_region ?_ | refine awp_regionD (id := 6) 10 mixed (by decide +kernel) ?_ | refine awp_condM ?_ | refine And.intro ?_ ?_ | refine gE_splitN ?_ ?_ | refine gE_split ?_ ?_ | refine gQ_splitN ?_ ?_ | refine gQ_split ?_ ?_ | refine gM_splitN ?_ ?_ | refine gM_split ?_ ?_ | refine condM_splitDN ?_ ?_ | refine condM_splitD ?_ ?_ | refine condM_splitN ?_ ?_ | refine condM_split ?_ ?_ | refine condM_any ?_ ?_ | intro _) | (simp [*]))
  refine awp_for3 (fun (k : Nat) => k ≤ l.length) [0, 1] (fun (k : Nat) => [(5, .w false false (.int .i64 k))]) [] (fun (k : Nat) => []) (fun (k : Nat) => l.length - k) (fun (_u : Unit) => True) [] (fun (_u : Unit) => []) [] (fun (_u : Unit) => []) (0) (Nat.zero_le _) (by simp) (by simp) (fun k hk => ?_) (fun _u hf => ?_)
  · by_cases hlt : k < l.length
    · have c1 := ints_c (nth l k) (hr k hlt)
      clear hr
      repeat' (first | (with_reducible first | refine awp_seq ?_ | refine awp_blockS ?_ | refine awp_blockC ?_ | refine awp_blockR ?_ | refine awp_skip ?_ | refine awp_ret ?_ | refine awp_exit ?_ | refine awp_region ?_ | refine awp_regionD (id := 6) 10 mixed (by decide +kernel) ?_ | refine awp_condM ?_ | refine And.intro ?_ ?_ | refine gE_splitN ?_ ?_ | refine gE_split ?_ ?_ | refine gQ_splitN ?_ ?_ | refine gQ_split ?_ ?_ | refine gM_splitN ?_ ?_ | refine gM_split ?_ ?_ | refine condM_splitDN ?_ ?_ | refine condM_splitD ?_ ?_ | refine condM_splitN ?_ ?_ | refine condM_split ?_ ?_ | refine condM_any ?_ ?_ | refine cw (c1) ?_ | intro _) | (simp [*, hlt]))
      all_goals first
        | exact inI64 (by omega) (by omega)
        | omega
        | (refine loopK_normal _ _ _ _ _ (k + 1) _ ?_ (by first | omega | (dsimp only; omega) | (simp; omega)) ?_; (· omega); (refine le_of ?_ ?_ <;> first | trivial | (simp [*]; done)))
        | skip
    · have hke : k = l.length := by omega
      subst hke
      clear hr
      repeat' (first | (with_reducible first | refine awp_seq ?_ | refine awp_blockS ?_ | refine awp_blockC ?_ | refine awp_blockR ?_ | refine awp_skip ?_ | refine awp_ret ?_ | refine awp_exit ?_ | refine awp_region ?_ | refine awp_regionD (id := 6) 10 mixed (by decide +kernel) ?_ | refine awp_condM ?_ | refine And.intro ?_ ?_ | refine gE_splitN ?_ ?_ | refine gE_split ?_ ?_ | refine gQ_splitN ?_ ?_ | refine gQ_split ?_ ?_ | refine gM_splitN ?_ ?_ | refine gM_split ?_ ?_ | refine condM_splitDN ?_ ?_ | refine condM_splitD ?_ ?_ | refine condM_splitN ?_ ?_ | refine condM_split ?_ ?_ | refine condM_any ?_ ?_ | intro _) | (simp [*]))
      (refine finW_intro () ?_ ?_; (· trivial); (refine le_of ?_ ?_ <;> first | trivial | (simp [*]; done)))
  · repeat' (first | (with_reducible first | refine awp_seq ?_ | refine awp_blockS ?_ | refine awp_blockC ?_ | refine awp_blockR ?_ | refine awp_skip ?_ | refine awp_ret ?_ | refine awp_exit ?_ | refine awp_region ?_ | refine awp_regionD (id := 6) 10 mixed (by decide +kernel) ?_ | refine awp_condM ?_ | refine And.intro ?_ ?_ | refine gE_splitN ?_ ?_ | refine gE_split ?_ ?_ | refine gQ_splitN ?_ ?_ | refine gQ_split ?_ ?_ | refine gM_splitN ?_ ?_ | refine gM_split ?_ ?_ | refine condM_splitDN ?_ ?_ | refine condM_splitD ?_ ?_ | refine condM_splitN ?_ ?_ | refine condM_split ?_ ?_ | refine condM_any ?_ ?_ | intro _) | (simp [*]))
end Go.Proofs.Ytmkahgnfoefnjaa
namespace Go.Proofs.Ytmkahgnfoefnjaa
open Go Go.Fi
set_option maxRecDepth 20000

/-! ### the rows that the islands are looked up in -/
def bbA (m : List (List Bool)) : List AV := (bRows m).map (AV.w true false)
@[simp] theorem bbA_len (m : List (List Bool)) : (bbA m).length = m.length := by simp [bbA]
@[simp] theorem bbA_lt (m : List (List Bool)) (n : Nat) : AV.lt.ltL n (bbA m) = true := ltL_map n true false _
@[simp] theorem bbA_self {D : List Nat} {h : Heap} {n n' : Nat} (m : List (List Bool)) : cellsLe D h n n' (bbA m) (bbA m) = True := eq_true (cellsLe_w true false _)
@[simp high] theorem bbA_frz (h : Heap) (d : Nat) (m : List (List Bool)) : (bbA m).mapM (frz h d) = some (bRows m) := mapM_frz h d true false (bRows m)
theorem bbA_snoc (m : List (List Bool)) (r : List Bool) : bbA (m ++ [r]) = bbA m ++ [.w true false (.sl r.length (bls r))] := by simp [bbA, bRows, bRow]
@[simp] theorem bbA_nil : bbA [] = [] := rfl
noncomputable def rws (n : Net) (k : Nat) : List (List Bool) := (List.range k).map (reachL n (-1))
@[simp] theorem rws_zero (n : Net) : rws n 0 = [] := rfl
theorem rws_succ (n : Net) (k : Nat) : rws n (k + 1) = rws n k ++ [reachL n (-1) k] := by simp [rws, List.range_succ]
@[simp] theorem rws_len (n : Net) (k : Nat) : (rws n k).length = k := by simp [rws]
theorem rws_nth (n : Net) (k i : Nat) (h : i < k) : nth (rws n k) i = reachL n (-1) i := by
  simp [rws, nth, List.getD_eq_getElem?_getD, h]
noncomputable def mtl (n : Net) (i j : Nat) : Bool := nth (reachL n (-1) i) j && nth (reachL n (-1) j) i
theorem reachB_trans {n : Net} {b : Int} {i j k : Nat} (h1 : ReachB n b i j) (h2 : ReachB n b j k) : ReachB n b i k := by
  induction h2 with
  | here => exact h1
  | road k hk hb _ ih => exact .road k hk hb ih
theorem mtl_eqv (n : Net) : Eqv (mtl n) n.places.length where
  refl := fun i hi => by
    unfold mtl
    rw [Bool.and_self]; exact (reachL_nth n (-1) i i hi).2 .here
  sym := fun i j _ _ h => by
    unfold mtl at *
    rw [Bool.and_comm]; exact h
  trans := fun i j k hi hj hk h1 h2 => by
    unfold mtl at *
    rw [Bool.and_eq_true] at *
    exact ⟨(reachL_nth n (-1) i k hk).2 (reachB_trans ((reachL_nth n (-1) i j hj).1 h1.1) ((reachL_nth n (-1) j k hk).1 h2.1)),
      (reachL_nth n (-1) k i hi).2 (reachB_trans ((reachL_nth n (-1) k j hj).1 h2.2) ((reachL_nth n (-1) j i hi).1 h1.2))⟩

/-! ### the islands as rows of numbers -/
def iN (l : List Nat) : List Int := l.map fun x : Nat => (x : Int)
def iNN (m : List (List Nat)) : List (List Int) := m.map iN
@[simp] theorem iN_len (l : List Nat) : (iN l).length = l.length := by simp [iN]
@[simp] theorem iNN_len (m : List (List Nat)) : (iNN m).length = m.length := by simp [iNN]
theorem iNN_nth (m : List (List Nat)) (k : Nat) (h : k < m.length) : nth (iNN m) k = iN (nth m k) := by
  simp [iNN, nth, List.getD_eq_getElem?_getD, h]
theorem iN_nth (l : List Nat) (k : Nat) (h : k < l.length) : nth (iN l) k = ((nth l k : Nat) : Int) := by
  simp [iN, nth, List.getD_eq_getElem?_getD, h]
theorem idx_atF (m : Nat → Nat → Bool) (i : Nat) (M : List (List Nat)) (hM : ∀ k, k < M.length → 0 < (nth M k).length) :
    idxS (fun r => m i (nth r 0).toNat) (iNN M) = atF m i M 0 := by
  have key : ∀ f k, M.length - k = f → idxFrom (fun r => m i (nth r 0).toNat) (iNN M) f k = atF m i (M.drop k) k := by
    intro f
    induction f with
    | zero =>
      intro k hk
      rw [List.drop_eq_nil_of_le (by omega)]; rfl
    | succ f ih =>
      intro k hk
      have hlt : k < M.length := by omega
      have hn : nth M k = M[k] := by simp [nth, List.getD_eq_getElem?_getD, List.getElem?_eq_getElem hlt]
      rw [List.drop_eq_getElem_cons hlt, ← hn]
      have e0 : (nth (nth (iNN M) k) 0).toNat = nth (nth M k) 0 := by
        rw [iNN_nth _ _ hlt, iN_nth _ _ (hM k hlt)]; rfl
      simp only [idxFrom, atF, iNN_len, hlt, if_true, hitB, e0]
      rw [ih (k + 1) (by omega)]
      rfl
  have := key _ 0 rfl
  unfold idxS
  rw [iNN_len]
  exact this

/-! ### rows in places of their own, s apart -/
@[simp] theorem selfL_iA (M : List (List Int)) : selfL (M.map iA) = True := eq_true fun c hc D h n n' => by
  obtain ⟨r, _, rfl⟩ := List.mem_map.1 hc
  exact cellsLe_w false false _
theorem famShift (M : List (List Int)) : (M.map iA) = (M.map ints).map fun c => c.map (AV.w false false) := by
  rw [List.map_map]; rfl
theorem cRows_eq (M : List (List Int)) : (M.map ints).map (fun c => PV.sl c.length c) = cRows M := by
  rw [List.map_map]
  exact List.map_congr_left (fun r _ => by simp [cRow])
theorem lens_eq (M : List (List Int)) : (M.map ints).map List.length = M.map List.length := by
  rw [List.map_map]
  exact List.map_congr_left (fun r _ => by simp)
theorem rowsS_frz {h : Heap} {d b s : Nat} {M : List (List Int)} (hd : 0 < d) (hf : famInS s h b (M.map iA)) : (msS s b (M.map List.length)).mapM (frz h d) = some (cRows M) := by
  have := msS_frz (d := d) hd (M.map ints) b (by rw [← famShift]; exact hf)
  rwa [lens_eq, cRows_eq] at this
theorem rowsS_fresh {h : Heap} {d b s : Nat} {M : List (List Int)} (hf : famInS s h b (M.map iA)) : (msS s b (M.map List.length)).all (freshA h (d + 1)) = true := by
  have := msS_fresh (d := d) (M.map ints) b (fun c hc => by obtain ⟨r, _, rfl⟩ := List.mem_map.1 hc; exact ints_flat r) (by rw [← famShift]; exact hf)
  rwa [lens_eq] at this
theorem rows1_frz {h : Heap} {d b : Nat} {M : List (List Int)} (hd : 0 < d) (hf : famIn h b (M.map iA)) : (ms1 b (M.map List.length)).mapM (frz h d) = some (cRows M) := by
  have := ms1_frz (d := d) hd (M.map ints) b (by rw [← famShift]; exact hf)
  rwa [lens_eq, cRows_eq] at this
theorem rows1_fresh {h : Heap} {d b : Nat} {M : List (List Int)} (hf : famIn h b (M.map iA)) : (ms1 b (M.map List.length)).all (freshA h (d + 1)) = true := by
  have := ms1_fresh (d := d) (M.map ints) b (fun c hc => by obtain ⟨r, _, rfl⟩ := List.mem_map.1 hc; exact ints_flat r) (by rw [← famShift]; exact hf)
  rwa [lens_eq] at this
end Go.Proofs.Ytmkahgnfoefnjaa
