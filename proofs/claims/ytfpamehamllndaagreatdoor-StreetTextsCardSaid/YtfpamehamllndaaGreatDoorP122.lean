/- Contracts of functions for this claim: lemmas alone. -/
import Derived.Test.YtfpamehamllndaaGreatDoorP121
import Derived.Test.YtfpamehamllndaaGreatDoorP23
import Derived.Test.YtfpamehamllndaaGreatDoorP32
import Derived.Test.YtfpamehamllndaaGreatDoorP103
set_option linter.unusedSimpArgs false
set_option linter.unusedVariables false
namespace Go.Proofs.YtfpamehamllndaaGreatDoor
open Go Go.Fi Go.RowKit Go.Shelf
set_option maxRecDepth 20000

/-! ### the text of a right net is read back (plain) -/
theorem any_hit {α : Type} [Inhabited α] (p : α → Bool) : ∀ (l : List α) (k : Nat), k < l.length → p (nth l k) = true → l.any p = true
  | [], k, h, _ => by simp at h
  | x :: r, 0, _, h => by have h' : p x = true := h; rw [List.any_cons, h']; rfl
  | x :: r, k + 1, hk, h => by rw [List.any_cons, any_hit p r k (by simpa using hk) (by simpa using h)]; simp
theorem take_len {α : Type} (l : List α) (k : Nat) (h : k ≤ l.length) : (l.take k).length = k := by rw [List.length_take]; omega
theorem dec_list (n : Int) : (dec n).data.toList = Lib.itoa n := by simp [dec]
theorem idxFrom_p {α : Type} [Inhabited α] (p : α → Bool) (l : List α) : ∀ f k, 0 ≤ idxFrom p l f k → (idxFrom p l f k).toNat < l.length ∧ p (nth l (idxFrom p l f k).toNat) = true
  | 0, k, h => by unfold idxFrom at h; omega
  | f + 1, k, h => by
    unfold idxFrom at h ⊢
    split
    · split
      · simp; constructor <;> assumption
      · rename_i h1 h2; rw [if_pos h1, if_neg h2] at h; exact idxFrom_p p l f (k + 1) h
    · rename_i h1; rw [if_neg h1] at h; omega
theorem idxS_none {α : Type} [Inhabited α] {p : α → Bool} {l : List α} (h : idxS p l < 0) (j : Nat) (hj : j < l.length) : p (nth l j) = false := by
  have := idxS_any p l
  rw [decide_eq_false (by omega)] at this
  cases hp : p (nth l j) with
  | false => rfl
  | true => rw [any_hit p l j hj hp] at this; cases this
theorem any_take_false {α : Type} [Inhabited α] {p : α → Bool} {l : List α} {k i : Nat} (h : (l.take k).any p = false) (hi : i < k) (hk : k ≤ l.length) : p (nth l i) = false := by
  cases hp : p (nth l i) with
  | false => rfl
  | true =>
    have h1 : i < (l.take k).length := by rw [take_len _ _ hk]; exact hi
    have h2 : nth (l.take k) i = nth l i := by simp [nth, List.getD_eq_getElem?_getD, List.getElem?_take, hi]
    rw [any_hit p (l.take k) i h1 (by rw [h2]; exact hp)] at h; cases h
theorem okUpto_all (s : ByteArray) : ∀ n k, k < n → okUpto s n = true → okB k (byteAt s k) = true
  | 0, k, h, _ => by omega
  | n + 1, k, h, hn => by
    unfold okUpto at hn
    rw [Bool.and_eq_true] at hn
    by_cases e : k = n
    · subst e; exact hn.2
    · exact okUpto_all s n k (by omega) hn.1
theorem name_ok {s : ByteArray} (h : nameB s = true) : (∀ k, k < s.size → okB k (byteAt s k) = true) ∧ s.size ≠ 0 ∧ s.size ≤ 12 := by
  unfold nameB at h
  simp only [Bool.and_eq_true, decide_eq_true_eq] at h
  exact ⟨fun k hk => okUpto_all s _ k hk h.1.1, h.1.2, h.2⟩
theorem okB_sp (k : Nat) : okB k 32 = false := by unfold okB letterB; simp
theorem name_nosp {s : ByteArray} (h : nameB s = true) : (32 : UInt8) ∉ s.data.toList := by
  intro hm
  obtain ⟨k, hk, e⟩ := List.getElem_of_mem hm
  have hk' : k < s.size := by
    show k < s.data.size
    rw [← Array.length_toList]; exact hk
  have := (name_ok h).1 k hk'
  have e2 : byteAt s k = 32 := by
    unfold byteAt
    rw [List.getD_eq_getElem?_getD, List.getElem?_eq_getElem hk, e]; rfl
  rw [e2, okB_sp] at this
  cases this
theorem name_ne {s : ByteArray} (h : nameB s = true) : s ≠ ⟨#[]⟩ := by
  intro e
  subst e
  exact absurd h (by decide)
theorem dig_no (u : Nat) (c : UInt8) (h : Lib.digitVal c = none) : c ∉ Lib.decDigits u := by
  intro hm
  obtain ⟨k, hk, e⟩ := List.getElem_of_mem hm
  obtain ⟨d, hd⟩ := Lib.digit_of_decFrom _ _ _ (decDigits_val u) k c (by rw [List.getElem?_eq_getElem hk, e])
  rw [h] at hd; cases hd
theorem dec_no (n : Int) (c : UInt8) (h : Lib.digitVal c = none) (h2 : c ≠ 45) : c ∉ (dec n).data.toList := by
  rw [dec_list]
  by_cases hn : n < 0
  · rw [itoa_neg hn]
    intro hm
    rcases List.mem_cons.1 hm with e | e
    · exact h2 e
    · exact dig_no _ c h e
  · rw [itoa_nn hn]; exact dig_no _ c h
theorem okB_nl (k : Nat) : okB k 10 = false := by unfold okB letterB; simp
theorem name_nonl {s : ByteArray} (h : nameB s = true) : (10 : UInt8) ∉ s.data.toList := by
  intro hm
  obtain ⟨k, hk, e⟩ := List.getElem_of_mem hm
  have hk' : k < s.size := by
    show k < s.data.size
    rw [← Array.length_toList]; exact hk
  have := (name_ok h).1 k hk'
  have e2 : byteAt s k = 10 := by
    unfold byteAt
    rw [List.getD_eq_getElem?_getD, List.getElem?_eq_getElem hk, e]; rfl
  rw [e2, okB_nl] at this
  cases this
def placeW (x : ByteArray) : List ByteArray := [wPlace, x]
def roadW (n : Net) (r : Road) : List ByteArray := [wRoad, r.name, nth n.places r.frm.toNat, nth n.places r.to.toNat, dec r.metres]
def timeW (p : Pt) : List ByteArray := [wTime, dec p.at_, dec p.lo, dec p.hi]
def blockW (n : Net) (r : Road) : List (List ByteArray) := roadW n r :: r.pts.map timeW
def allW (n : Net) : List (List ByteArray) := n.places.map placeW ++ n.roads.flatMap (blockW n)
def catL (Ws : List (List ByteArray)) : List UInt8 := Ws.flatMap fun w => (joinB w sp1).data.toList ++ [10]
theorem catL_app (A B : List (List ByteArray)) : catL (A ++ B) = catL A ++ catL B := by simp [catL]
theorem lineT_list (ws : List ByteArray) (l : List Int) : (lineT ws l).data.toList = catL [ws ++ l.map dec] := by
  have e : wsK ws l l.length = ws ++ l.map dec := by unfold wsK; rw [List.take_length]
  unfold lineT catL
  rw [e]
  simp
theorem placesT_list (n : Net) : ∀ k, k ≤ n.places.length → (placesT n k).data.toList = catL ((n.places.take k).map placeW)
  | 0, _ => rfl
  | k + 1, h => by
    have ih := placesT_list n k (by omega)
    unfold placesT placeL
    rw [take_succ_nth n.places k (by omega), List.map_append, catL_app, ← ih]
    have e := lineT_list [wPlace, nth n.places k] []
    rw [show (placesT n k ++ lineT [wPlace, nth n.places k] []).data.toList = (placesT n k).data.toList ++ (lineT [wPlace, nth n.places k] []).data.toList by simp, e]
    rfl
theorem ptsT_list (l : List Pt) (a : ByteArray) : ∀ k, k ≤ l.length → (ptsT l a k).data.toList = a.data.toList ++ catL ((l.take k).map timeW)
  | 0, _ => by simp [ptsT, catL]
  | k + 1, h => by
    have ih := ptsT_list l a k (by omega)
    unfold ptsT timeL
    rw [take_succ_nth l k (by omega), List.map_append, catL_app, ← List.append_assoc, ← ih]
    have e := lineT_list [wTime] [(nth l k).at_, (nth l k).lo, (nth l k).hi]
    rw [show (ptsT l a k ++ lineT [wTime] [(nth l k).at_, (nth l k).lo, (nth l k).hi]).data.toList = (ptsT l a k).data.toList ++ (lineT [wTime] [(nth l k).at_, (nth l k).lo, (nth l k).hi]).data.toList by simp, e]
    rfl
theorem roadsT_list (n : Net) (a : ByteArray) : ∀ k, k ≤ n.roads.length → (roadsT n a k).data.toList = a.data.toList ++ catL ((n.roads.take k).flatMap (blockW n))
  | 0, _ => by simp [roadsT, catL]
  | k + 1, h => by
    have ih := roadsT_list n a k (by omega)
    unfold roadsT
    rw [take_succ_nth n.roads k (by omega), List.flatMap_append, catL_app, ← List.append_assoc, ← ih, ptsT_list _ _ _ (Nat.le_refl _), List.take_length]
    have e := lineT_list [wRoad, (nth n.roads k).name, nth n.places (nth n.roads k).frm.toNat, nth n.places (nth n.roads k).to.toNat] [(nth n.roads k).metres]
    rw [show (roadsT n a k ++ roadL n (nth n.roads k)).data.toList = (roadsT n a k).data.toList ++ (roadL n (nth n.roads k)).data.toList by simp]
    unfold roadL
    rw [e, List.append_assoc, ← catL_app]
    simp [blockW, roadW]
theorem printS_list (n : Net) : (printS n).data.toList = catL (allW n) := by
  unfold printS
  rw [roadsT_list n _ _ (Nat.le_refl _), placesT_list n _ (Nat.le_refl _), List.take_length, List.take_length, ← catL_app]
  rfl
/-- words that can be told as a line -/
structure WOk (w : List ByteArray) : Prop where
  ne : w ≠ []
  len : w.length ≤ 5
  sp : ∀ x ∈ w, (32 : UInt8) ∉ x.data.toList
  nl : ∀ x ∈ w, (10 : UInt8) ∉ x.data.toList
  em : noneB w = false
  sz : ∀ x ∈ w, x.size ≤ 21
theorem mem_glue (c b : UInt8) : ∀ ws : List (List UInt8), b ∈ glue c ws → b = c ∨ ∃ w ∈ ws, b ∈ w
  | [], h => by simp [glue] at h
  | [w], h => .inr ⟨w, by simp, h⟩
  | w :: x :: r, h => by
    unfold glue at h
    rcases List.mem_append.1 h with h | h
    · exact .inr ⟨w, by simp, h⟩
    · rcases List.mem_cons.1 h with h | h
      · exact .inl h
      · rcases mem_glue c b (x :: r) h with h | ⟨y, hy, hb⟩
        · exact .inl h
        · exact .inr ⟨y, List.mem_cons_of_mem _ hy, hb⟩
theorem joinB_list (w : List ByteArray) : (joinB w sp1).data.toList = glue 32 (w.map (·.data.toList)) := by
  rw [glue_join]; simp [joinB]
theorem WOk.join_nl {w : List ByteArray} (h : WOk w) : (10 : UInt8) ∉ (joinB w sp1).data.toList := by
  rw [joinB_list]
  intro hm
  rcases mem_glue _ _ _ hm with e | ⟨x, hx, hb⟩
  · exact absurd e (by decide)
  · obtain ⟨y, hy, rfl⟩ := List.mem_map.1 hx
    exact h.nl y hy hb
theorem WOk.cut {w : List ByteArray} (h : WOk w) : pieces (joinB w sp1) sp1 = w := pieces_join 32 w h.ne h.sp
theorem glue_cat : ∀ Ws : List (List ByteArray), glue 10 ((Ws.map fun w => (joinB w sp1).data.toList) ++ [[]]) = catL Ws
  | [] => rfl
  | w :: r => by
    have ih := glue_cat r
    have e : glue 10 (((w :: r).map fun w => (joinB w sp1).data.toList) ++ [[]]) = (joinB w sp1).data.toList ++ 10 :: glue 10 ((r.map fun w => (joinB w sp1).data.toList) ++ [[]]) := by
      cases r with
      | nil => rfl
      | cons x r => rfl
    rw [e, ih]
    simp [catL]
theorem pieces_cat {t : ByteArray} {Ws : List (List ByteArray)} (ht : t.data.toList = catL Ws) (h : ∀ w ∈ Ws, WOk w) : pieces t nl1 = Ws.map (fun w => joinB w sp1) ++ [⟨#[]⟩] := by
  refine pieces_glue 10 _ _ (by simp) (fun x hx => ?_) ?_
  · rcases List.mem_append.1 hx with hx | hx
    · obtain ⟨w, hw, rfl⟩ := List.mem_map.1 hx
      exact (h w hw).join_nl
    · rw [List.mem_singleton.1 hx]; simp
  · rw [ht, ← glue_cat, List.map_append, List.map_map]
    rfl
def runD : Dr → Int → List (List ByteArray) → Option Dr
  | d, _, [] => some d
  | d, k, w :: r => match lineD d k w with
    | none => none
    | some d' => runD d' (k + 1) r
theorem runD_app : ∀ (A B : List (List ByteArray)) (d d' : Dr) (k : Int), runD d k A = some d' → runD d k (A ++ B) = runD d' (k + A.length) B
  | [], B, d, d', k, h => by injection h with h; subst h; simp
  | w :: A, B, d, d', k, h => by
    simp only [List.cons_append, runD] at h ⊢
    cases hl : lineD d k w with
    | none => rw [hl] at h; cases h
    | some d2 =>
      rw [hl] at h
      simp only at h ⊢
      rw [runD_app A B d2 d' (k + 1) h]
      simp only [List.length_cons]
      congr 1; omega
theorem linesD_run : ∀ (Ws : List (List ByteArray)) (d d' : Dr) (k : Int), (∀ w ∈ Ws, WOk w) → runD d k Ws = some d' → linesD d k (Ws.map (fun w => joinB w sp1) ++ [⟨#[]⟩]) = .inr d'
  | [], d, d', k, _, h => by injection h with h; subst h; exact linesD_nil d k
  | w :: r, d, d', k, hw, h => by
    have h1 := (hw w (by simp)).cut
    simp only [runD] at h
    cases hl : lineD d k w with
    | none => rw [hl] at h; cases h
    | some d2 =>
      rw [hl] at h
      have ih := linesD_run r d2 d' (k + 1) (fun x hx => hw x (List.mem_cons_of_mem _ hx)) h
      rw [List.map_cons, List.cons_append]
      cases hr : r.map (fun w => joinB w sp1) ++ [(⟨#[]⟩ : ByteArray)] with
      | nil => simp at hr
      | cons x q =>
        rw [hr] at ih
        rw [linesD_more, h1, hl]
        exact ih
theorem lineD_place {d : Dr} {k : Int} {x : ByteArray} (h : WOk (placeW x)) (hr : d.roads = []) : lineD d k (placeW x) = some { d with places := d.places ++ [x] } := by
  unfold lineD
  rw [if_neg (by rw [h.em]; decide)]
  simp only [placeW]
  rw [if_pos ⟨trivial, by rw [hr]; rfl⟩]
theorem lineD_road {d : Dr} {k : Int} {n : Net} {r : Road} (h : WOk (roadW n r)) (hm : numS (dec r.metres) = some r.metres) :
    lineD d k (roadW n r) = some { d with roads := d.roads ++ [⟨r.name, 0, 0, r.metres, []⟩], ends := d.ends ++ [(nth n.places r.frm.toNat, nth n.places r.to.toNat)], at_ := d.at_ ++ [k] } := by
  unfold lineD
  rw [if_neg (by rw [h.em]; decide)]
  simp only [roadW]
  rw [if_pos trivial, hm]
  rfl
theorem lineD_time {d : Dr} {k : Int} {p : Pt} (h : WOk (timeW p)) (h1 : numS (dec p.at_) = some p.at_) (h2 : numS (dec p.lo) = some p.lo) (h3 : numS (dec p.hi) = some p.hi) (hr : d.roads.length ≠ 0) :
    lineD d k (timeW p) = some { d with roads := addP d.roads p } := by
  unfold lineD
  rw [if_neg (by rw [h.em]; decide)]
  simp only [timeW]
  rw [if_pos ⟨trivial, hr⟩, h1, h2, h3]
theorem run_places : ∀ (ps : List ByteArray) (d : Dr) (k : Int), d.roads = [] → (∀ x ∈ ps, WOk (placeW x)) → runD d k (ps.map placeW) = some { d with places := d.places ++ ps }
  | [], d, k, _, _ => by simp [runD]
  | x :: ps, d, k, hr, hw => by
    simp only [List.map_cons, runD]
    rw [lineD_place (hw x (by simp)) hr]
    simp only
    rw [run_places ps { d with places := d.places ++ [x] } (k + 1) hr (fun y hy => hw y (List.mem_cons_of_mem _ hy))]
    simp
structure PtW (p : Pt) : Prop where
  w : WOk (timeW p)
  a : numS (dec p.at_) = some p.at_
  l : numS (dec p.lo) = some p.lo
  h : numS (dec p.hi) = some p.hi
theorem run_times : ∀ (ts : List Pt) (d : Dr) (l : List Road) (r : Road) (k : Int), d.roads = l ++ [r] → (∀ p ∈ ts, PtW p) → runD d k (ts.map timeW) = some { d with roads := l ++ [{ r with pts := r.pts ++ ts }] }
  | [], d, l, r, k, hr, _ => by simp [runD, ← hr]
  | p :: ts, d, l, r, k, hr, hw => by
    have hp := hw p (by simp)
    simp only [List.map_cons, runD]
    rw [lineD_time hp.w hp.a hp.l hp.h (by rw [hr]; simp)]
    simp only
    rw [run_times ts { d with roads := addP d.roads p } l { r with pts := r.pts ++ [p] } (k + 1) (by show addP d.roads p = _; rw [hr, addP_snoc]) (fun q hq => hw q (List.mem_cons_of_mem _ hq))]
    simp
def zR (r : Road) : Road := { r with frm := 0, to := 0 }
def eR (n : Net) (r : Road) : ByteArray × ByteArray := (nth n.places r.frm.toNat, nth n.places r.to.toNat)
structure RdW (n : Net) (r : Road) : Prop where
  w : WOk (roadW n r)
  m : numS (dec r.metres) = some r.metres
  p : ∀ p ∈ r.pts, PtW p
theorem run_block {n : Net} {r : Road} (h : RdW n r) (d : Dr) (k : Int) : runD d k (blockW n r) = some { d with roads := d.roads ++ [zR r], ends := d.ends ++ [eR n r], at_ := d.at_ ++ [k] } := by
  unfold blockW
  simp only [runD]
  rw [lineD_road h.w h.m]
  simp only
  rw [run_times r.pts _ d.roads ⟨r.name, 0, 0, r.metres, []⟩ (k + 1) rfl h.p]
  rfl
theorem run_roads {n : Net} : ∀ (rs : List Road) (d : Dr) (k : Int), (∀ r ∈ rs, RdW n r) → ∃ A, A.length = rs.length ∧ runD d k (rs.flatMap (blockW n)) = some { d with roads := d.roads ++ rs.map zR, ends := d.ends ++ rs.map (eR n), at_ := d.at_ ++ A }
  | [], d, k, _ => ⟨[], rfl, by simp [runD]⟩
  | r :: rs, d, k, hw => by
    obtain ⟨A, h1, h2⟩ := run_roads rs { d with roads := d.roads ++ [zR r], ends := d.ends ++ [eR n r], at_ := d.at_ ++ [k] } (k + (blockW n r).length) (fun q hq => hw q (List.mem_cons_of_mem _ hq))
    refine ⟨k :: A, by simp [h1], ?_⟩
    rw [List.flatMap_cons, runD_app _ _ _ _ _ (run_block (hw r (by simp)) d k), h2]
    simp
theorem dec_ne (v : Int) : dec v ≠ ⟨#[]⟩ := by
  intro e
  have h : (dec v).data.toList = [] := by rw [e]
  rw [dec_list] at h
  by_cases hn : v < 0
  · rw [itoa_neg hn] at h; cases h
  · rw [itoa_nn hn] at h; exact decDigits_ne _ h
end Go.Proofs.YtfpamehamllndaaGreatDoor
namespace Go.Proofs.YtfpamehamllndaaGreatDoor
open Go Go.Fi Go.RowKit Go.Shelf
set_option maxRecDepth 20000

/-! ### the text of a right net is read back -/
theorem dec_pow {u : Nat} (h : u < 1000000) : Lib.nDigits u ≤ 6 := by
  rcases Nat.lt_or_ge 6 (Lib.nDigits u) with hlt | hge
  · exfalso
    have key : ∀ (k u : Nat), u < 10 ^ (k + 1) → Lib.nDigits u ≤ k + 1 := by
      intro k
      induction k with
      | zero => intro u hu; rw [Lib.nDigits_small (by simpa using hu)]; exact Nat.le_refl _
      | succ k ih =>
        intro u hu
        by_cases h10 : u < 10
        · rw [Lib.nDigits_small h10]; omega
        · rw [Lib.nDigits_big h10]
          have := ih (u / 10) (by rw [Nat.pow_succ] at hu; omega)
          omega
    have := key 5 u (by simpa using h)
    omega
  · exact hge
theorem dec_len6 {v : Int} (h0 : 0 ≤ v) (h1 : v ≤ 100000) : (Lib.itoa v).length ≤ 6 := by
  rw [itoa_nn (by omega), Lib.decDigits_length]
  exact dec_pow (by omega)
theorem num_dec {v : Int} (h0 : 0 ≤ v) (h1 : v ≤ 100000) : numS (dec v) = some v := by
  unfold numS
  rw [dec_list]
  refine ref_itoa v ?_
  have h := dec_len6 h0 h1
  have : (ds (Lib.itoa v)).length ≤ (Lib.itoa v).length := by
    unfold ds
    split
    · rw [List.length_tail]; omega
    · exact Nat.le_refl _
  omega
theorem dec_sz {v : Int} (h0 : 0 ≤ v) (h1 : v ≤ 100000) : (dec v).size ≤ 21 := by
  rw [← ba_len, dec_list]; have := dec_len6 h0 h1; omega
theorem dv32 : Lib.digitVal 32 = none := by decide
theorem dv10 : Lib.digitVal 10 = none := by decide
theorem wok_of (w : List ByteArray) (h0 : w ≠ []) (hl : w.length ≤ 5) (h : ∀ x ∈ w, (32 : UInt8) ∉ x.data.toList ∧ (10 : UInt8) ∉ x.data.toList ∧ x ≠ ⟨#[]⟩ ∧ x.size ≤ 21) : WOk w := by
  refine ⟨h0, hl, fun x hx => (h x hx).1, fun x hx => (h x hx).2.1, ?_, fun x hx => (h x hx).2.2.2⟩
  unfold noneB
  rw [Bool.eq_false_iff]
  intro hn
  obtain ⟨x, hx, e⟩ := List.any_eq_true.1 hn
  exact (h x hx).2.2.1 (of_decide_eq_true e)
theorem wd_name {s : ByteArray} (h : nameB s = true) : (32 : UInt8) ∉ s.data.toList ∧ (10 : UInt8) ∉ s.data.toList ∧ s ≠ ⟨#[]⟩ ∧ s.size ≤ 21 := ⟨name_nosp h, name_nonl h, name_ne h, by have := name_sz h; omega⟩
theorem wd_dec {v : Int} (h0 : 0 ≤ v) (h1 : v ≤ 100000) : (32 : UInt8) ∉ (dec v).data.toList ∧ (10 : UInt8) ∉ (dec v).data.toList ∧ dec v ≠ ⟨#[]⟩ ∧ (dec v).size ≤ 21 :=
  ⟨dec_no v 32 dv32 (by decide), dec_no v 10 dv10 (by decide), dec_ne v, dec_sz h0 h1⟩
theorem wd_p : (32 : UInt8) ∉ wPlace.data.toList ∧ (10 : UInt8) ∉ wPlace.data.toList ∧ wPlace ≠ ⟨#[]⟩ ∧ wPlace.size ≤ 21 := ⟨by decide, by decide, by decide, by decide⟩
theorem wd_r : (32 : UInt8) ∉ wRoad.data.toList ∧ (10 : UInt8) ∉ wRoad.data.toList ∧ wRoad ≠ ⟨#[]⟩ ∧ wRoad.size ≤ 21 := ⟨by decide, by decide, by decide, by decide⟩
theorem wd_t : (32 : UInt8) ∉ wTime.data.toList ∧ (10 : UInt8) ∉ wTime.data.toList ∧ wTime ≠ ⟨#[]⟩ ∧ wTime.size ≤ 21 := ⟨by decide, by decide, by decide, by decide⟩
theorem mem_nthA {α : Type} [Inhabited α] {l : List α} {x : α} (h : x ∈ l) : ∃ k, k < l.length ∧ nth l k = x := by
  obtain ⟨k, hk, rfl⟩ := List.getElem_of_mem h
  exact ⟨k, hk, by simp [nth, List.getD_eq_getElem?_getD, List.getElem?_eq_getElem hk]⟩
theorem place_w {n : Net} (ok : NetOk n) {x : ByteArray} (hx : x ∈ n.places) : WOk (placeW x) := by
  obtain ⟨k, hk, rfl⟩ := mem_nthA hx
  refine wok_of _ (by simp [placeW]) (by simp [placeW]) (fun y hy => ?_)
  simp only [placeW, List.mem_cons, List.not_mem_nil, or_false] at hy
  rcases hy with rfl | rfl
  · exact wd_p
  · exact wd_name (ok.pname k hk).1
theorem pt_w {l : List Pt} (ok : PtsOk l) (hv : ∀ k, k < l.length → (nth l k).lo ≤ 7200 ∧ (nth l k).hi ≤ 7200) {p : Pt} (hp : p ∈ l) : PtW p := by
  obtain ⟨k, hk, rfl⟩ := mem_nthA hp
  have h1 := ok.at_ k hk
  have h2 := ok.val k hk
  have h3 := hv k hk
  refine ⟨wok_of _ (by simp [timeW]) (by simp [timeW]) (fun y hy => ?_), num_dec (by omega) (by omega), num_dec (by omega) (by omega), num_dec (by omega) (by omega)⟩
  simp only [timeW, List.mem_cons, List.not_mem_nil, or_false] at hy
  rcases hy with rfl | rfl | rfl | rfl
  · exact wd_t
  · exact wd_dec (by omega) (by omega)
  · exact wd_dec (by omega) (by omega)
  · exact wd_dec (by omega) (by omega)
end Go.Proofs.YtfpamehamllndaaGreatDoor
namespace Go.Proofs.YtfpamehamllndaaGreatDoor
open Go Go.Fi Go.RowKit Go.Shelf
set_option maxRecDepth 20000

theorem road_w {n : Net} (ok : NetOk n) {r : Road} (hr : r ∈ n.roads) : RdW n r := by
  obtain ⟨k, hk, rfl⟩ := mem_nthA hr
  have rk := ok.road k hk
  have hf : (nth n.roads k).frm.toNat < n.places.length := by have := rk.frm; omega
  have ht : (nth n.roads k).to.toNat < n.places.length := by have := rk.to; omega
  refine ⟨wok_of _ (by simp [roadW]) (by simp [roadW]) (fun y hy => ?_), num_dec rk.met.1 rk.met.2, fun p hp => pt_w rk.pts (fun j hj => ⟨(rk.inc.small j hj).2.1, (rk.inc.small j hj).2.2.2⟩) hp⟩
  simp only [roadW, List.mem_cons, List.not_mem_nil, or_false] at hy
  rcases hy with rfl | rfl | rfl | rfl | rfl
  · exact wd_r
  · exact wd_name (ok.rname k hk).1
  · exact wd_name (ok.pname _ hf).1
  · exact wd_name (ok.pname _ ht).1
  · exact wd_dec rk.met.1 rk.met.2
theorem all_w {n : Net} (ok : NetOk n) : ∀ w ∈ allW n, WOk w := by
  intro w hw
  unfold allW at hw
  rcases List.mem_append.1 hw with hw | hw
  · obtain ⟨x, hx, rfl⟩ := List.mem_map.1 hw
    exact place_w ok hx
  · obtain ⟨r, hr, hw⟩ := List.mem_flatMap.1 hw
    have h := road_w ok hr
    unfold blockW at hw
    rcases List.mem_cons.1 hw with rfl | hw
    · exact h.w
    · obtain ⟨p, hp, rfl⟩ := List.mem_map.1 hw
      exact (h.p p hp).w
theorem places_apart {n : Net} (h : NetOk n) {i j : Nat} (hi : i < n.places.length) (hj : j < n.places.length) (e : nth n.places i = nth n.places j) : i = j := by
  rcases Nat.lt_trichotomy i j with hlt | heq | hgt
  · have := any_take_false (h.pname j hj).2 hlt (by omega)
    rw [decide_eq_false_iff_not] at this; exact absurd e.symm this
  · exact heq
  · have := any_take_false (h.pname i hi).2 hgt (by omega)
    rw [decide_eq_false_iff_not] at this; exact absurd e this
theorem place_back {n : Net} (h : NetOk n) {k : Nat} (hk : k < n.places.length) : idxOf n.places (nth n.places k) = k := by
  rcases Int.lt_or_le (idxOf n.places (nth n.places k)) 0 with h1 | h1
  · have := idxS_none h1 k hk
    simp at this
  · obtain ⟨h2, h3⟩ := idxFrom_p (fun x => decide (nth n.places k = x)) n.places n.places.length 0 h1
    have h4 : (idxOf n.places (nth n.places k)).toNat = k := (places_apart h hk h2 (of_decide_eq_true h3)).symm
    omega
theorem zip_back {n : Net} (ok : NetOk n) : List.zipWith (setE n.places) (n.roads.map zR) (n.roads.map (eR n)) = n.roads := by
  rw [List.zipWith_map, List.zipWith_self]
  rw [show n.roads = n.roads.map id by simp, List.map_map]
  refine List.map_congr_left fun r hr => ?_
  obtain ⟨k, hk, rfl⟩ := mem_nthA (by simpa using hr : r ∈ n.roads)
  have rk := ok.road k hk
  have hf : (nth n.roads k).frm.toNat < n.places.length := by have := rk.frm; omega
  have ht : (nth n.roads k).to.toNat < n.places.length := by have := rk.to; omega
  show setE n.places (zR (nth n.roads k)) (eR n (nth n.roads k)) = nth n.roads k
  unfold setE zR eR
  dsimp only
  rw [place_back ok hf, place_back ok ht, Int.toNat_of_nonneg rk.frm.1, Int.toNat_of_nonneg rk.to.1]
theorem ok_back {n : Net} (ok : NetOk n) (j : Nat) (hj : j < (n.roads.map (eR n)).length) : okE n.places (nth (n.roads.map (eR n)) j) := by
  have hk : j < n.roads.length := by simpa using hj
  have e : nth (n.roads.map (eR n)) j = eR n (nth n.roads j) := by simp [nth, List.getD_eq_getElem?_getD, List.getElem?_eq_getElem hk]
  have rk := ok.road j hk
  have hf : (nth n.roads j).frm.toNat < n.places.length := by have := rk.frm; omega
  have ht : (nth n.roads j).to.toNat < n.places.length := by have := rk.to; omega
  rw [e]
  unfold okE eR
  dsimp only
  rw [place_back ok hf, place_back ok ht]
  omega
theorem print_pieces {n : Net} (ok : NetOk n) : pieces (printS n) nl1 = (allW n).map (fun w => joinB w sp1) ++ [⟨#[]⟩] := pieces_cat (printS_list n) (all_w ok)
theorem catL_len : ∀ (Ws : List (List ByteArray)) (m : Nat), (∀ w ∈ Ws, (joinB w sp1).size + 1 ≤ m) → (catL Ws).length ≤ Ws.length * m
  | [], m, _ => by simp [catL]; try omega
  | w :: r, m, h => by
    have ih := catL_len r m (fun x hx => h x (List.mem_cons_of_mem _ hx))
    have h1 := h w (by simp)
    have e : (catL (w :: r)).length = ((joinB w sp1).data.toList.length + 1) + (catL r).length := by simp [catL]; omega
    rw [e, ba_len, List.length_cons, Nat.add_mul]
    omega
theorem joinW_le {w : List ByteArray} (h : WOk w) (m : Nat) (hm : w.length ≤ m) : (joinB w sp1).size + 1 ≤ m * 22 + 1 := by
  have h1 := joinB_size sp1 21 w h.sz
  have h2 : w.length * 22 ≤ m * 22 := Nat.mul_le_mul_right _ hm
  have h3 : (21 + sp1.size) = 22 := rfl
  rw [h3] at h1
  omega
theorem block_len {n : Net} (ok : NetOk n) : ∀ (rs : List Road), (∀ r ∈ rs, r ∈ n.roads) → (catL (rs.flatMap (blockW n))).length ≤ rs.length * 823 ∧ (rs.flatMap (blockW n)).length ≤ rs.length * 9
  | [], _ => by simp [catL]; try omega
  | r :: rs, h => by
    obtain ⟨i1, i2⟩ := block_len ok rs (fun q hq => h q (List.mem_cons_of_mem _ hq))
    have hr := h r (by simp)
    have hw := road_w ok hr
    obtain ⟨k, hk, e⟩ := mem_nthA hr
    have hl : r.pts.length ≤ 8 := by rw [← e]; exact (ok.road k hk).len
    have h1 := catL_len [roadW n r] 111 (fun w hq => by rw [List.mem_singleton.1 hq]; exact joinW_le hw.w 5 (by simp [roadW]))
    have h2 := catL_len (r.pts.map timeW) 89 (fun w hq => by
      obtain ⟨p, hp, rfl⟩ := List.mem_map.1 hq
      exact joinW_le (hw.p p hp).w 4 (by simp [timeW]))
    have h3 : (r.pts.map timeW).length * 89 ≤ 8 * 89 := Nat.mul_le_mul_right _ (by simpa using hl)
    rw [List.flatMap_cons, catL_app]
    have e2 : catL (blockW n r) = catL [roadW n r] ++ catL (r.pts.map timeW) := by rw [← catL_app]; rfl
    rw [e2]
    simp only [List.length_append, List.length_cons, List.length_nil, Nat.add_mul, List.length_map, blockW] at h1 h2 h3 ⊢
    omega
theorem print_size {n : Net} (ok : NetOk n) : (printS n).size ≤ 60000 ∧ (allW n).length ≤ 560 := by
  obtain ⟨h1, h2⟩ := block_len ok n.roads (fun r hr => hr)
  have h3 := catL_len (n.places.map placeW) 45 (fun w hw => by
    obtain ⟨x, hx, rfl⟩ := List.mem_map.1 hw
    exact joinW_le (place_w ok hx) 2 (by simp [placeW]))
  have hp := ok.np
  have hr := ok.nr
  rw [List.length_map] at h3
  constructor
  · rw [← ba_len, printS_list]
    unfold allW
    rw [catL_app, List.length_append]
    omega
  · unfold allW
    rw [List.length_append, List.length_map]
    omega
theorem print_in {n : Net} (ok : NetOk n) : PIn (printS n) := by
  obtain ⟨h1, h2⟩ := print_size ok
  refine ⟨h1, by rw [print_pieces ok]; simp; omega, fun x hx => ?_⟩
  rw [print_pieces ok] at hx
  rcases List.mem_append.1 hx with hx | hx
  · obtain ⟨w, hw, rfl⟩ := List.mem_map.1 hx
    have h := all_w ok w hw
    rw [h.cut]
    exact ⟨by have := h.len; omega, fun y hy => by have := h.sz y hy; omega⟩
  · rw [List.mem_singleton.1 hx]
    have e : pieces (⟨#[]⟩ : ByteArray) sp1 = [⟨#[]⟩] := by
      refine map_inj_ba ?_
      show (pieces _ ⟨#[32]⟩).map _ = _
      rw [pieces_cut]; rfl
    rw [e]
    exact ⟨by simp, fun y hy => by rw [List.mem_singleton.1 hy]; decide⟩
/-- THE TEXT OF A RIGHT NET IS READ BACK -/
theorem parse_print {n : Net} (ok : NetOk n) (he : (netS n).2.2 = 0) : parseN (printS n) = (n, 0, 0) := by
  have h1 := (print_size ok).1
  have hpl := run_places n.places ⟨[], [], [], []⟩ 1 rfl (fun x hx => place_w ok hx)
  obtain ⟨A, hA, hrd⟩ := run_roads (n := n) n.roads ⟨[] ++ n.places, [], [], []⟩ (1 + (n.places.map placeW).length) (fun r hr => road_w ok hr)
  have hrun : runD ⟨[], [], [], []⟩ 1 (allW n) = some ⟨n.places, n.roads.map zR, n.roads.map (eR n), A⟩ := by
    unfold allW
    rw [runD_app _ _ _ _ _ hpl, hrd]
    simp
  have hl := linesD_run (allW n) _ _ 1 (all_w ok) hrun
  rw [← print_pieces ok] at hl
  have hend := endsD_ok n.places (n.roads.map zR) (n.roads.map (eR n)) A (by simp) (by simp [hA]) (ok_back ok)
  rw [zip_back ok] at hend
  unfold parseN
  rw [if_neg (by omega), hl]
  dsimp only
  rw [hend]
  dsimp only
  rw [if_pos he]
end Go.Proofs.YtfpamehamllndaaGreatDoor
namespace Go.Proofs.YtfpamehamllndaaGreatDoor
open Go Go.Fi Go.RowKit Go.Shelf
set_option maxRecDepth 20000

/-! ### the statement, at its function -/
theorem linesD_in : ∀ (L : List ByteArray) (d d' : Dr) (k : Int) (i : Nat), DrIn d i → (∀ x ∈ L, ∀ y ∈ pieces x sp1, y.size < 1000) → linesD d k L = .inr d' → DrIn d' (i + L.length)
  | [], d, d', k, i, h, _, e => by injection e with e; subst e; exact h
  | [s], d, d', k, i, h, _, e => by
    rw [linesD_last] at e
    split at e
    · injection e with e; subst e; exact h.up
    · cases e
  | s :: t :: r, d, d', k, i, h, hw, e => by
    rw [linesD_more] at e
    cases hl : lineD d k (pieces s sp1) with
    | none => rw [hl] at e; cases e
    | some d2 =>
      rw [hl] at e
      have := linesD_in (t :: r) d2 d' (k + 1) (i + 1) (h.line (hw s (by simp)) hl) (fun x hx => hw x (List.mem_cons_of_mem _ hx)) e
      have e2 : i + (s :: t :: r).length = i + 1 + (t :: r).length := by simp only [List.length_cons]; omega
      rw [e2]; exact this
theorem endsD_inr (pl : List ByteArray) : ∀ (R : List Road) (E : List (ByteArray × ByteArray)) (A : List Int) (l : List Road), E.length = R.length → A.length = R.length → endsD pl R E A = .inr l → l = List.zipWith (setE pl) R E
  | [], E, A, l, _, _, e => by simp [endsD] at e; simp [e]
  | r :: R, [], A, l, h, _, _ => by simp at h
  | r :: R, e :: E, [], l, _, h, _ => by simp at h
  | r :: R, e :: E, a :: A, l, h1, h2, h => by
    simp only [endsD] at h
    split at h
    · cases h
    · cases hr : endsD pl R E A with
      | inl j => rw [hr] at h; cases h
      | inr q =>
        rw [hr] at h
        injection h with h
        rw [← h, endsD_inr pl R E A q (by simpa using h1) (by simpa using h2) hr]
        rfl
theorem noNet_in : NetIn noNet := ⟨by decide, by decide, (fun k hk => absurd hk (Nat.not_lt_zero k)), (fun k hk => absurd hk (Nat.not_lt_zero k)), (fun k hk => absurd hk (Nat.not_lt_zero k))⟩
theorem parseN_in {t : ByteArray} (h : PIn t) : NetIn (parseN t).1 := by
  unfold parseN
  rw [if_neg (by have := h.sz; omega)]
  cases hl : linesD ⟨[], [], [], []⟩ 1 (pieces t nl1) with
  | inl k => exact noNet_in
  | inr d =>
    have hd := linesD_in _ _ _ _ 0 DrIn.zero (fun x hx => (h.wl x hx).2) hl
    dsimp only
    cases he : endsD d.places d.roads d.ends d.at_ with
    | inl k => exact noNet_in
    | inr l =>
      have := endsD_inr _ _ _ _ _ hd.ne hd.na he
      subst this
      dsimp only
      split
      · exact netIn_zip hd (by have := h.ln; omega)
      · exact noNet_in
theorem pin_small {s : ByteArray} (h : s.size ≤ 300) : PIn s := by
  have h1 : (pieces s nl1).length ≤ s.size + 1 := pieces_len s 10
  refine ⟨by omega, by omega, fun x hx => ?_⟩
  have h2 : x.size ≤ s.size := pieces_size s 10 hx
  have h3 : (pieces x sp1).length ≤ x.size + 1 := pieces_len x 32
  exact ⟨by omega, fun y hy => by have : y.size ≤ x.size := pieces_size x 32 hy; omega⟩

set_option maxHeartbeats 8000000 in
theorem streetTexts_c (hA : RealCall Tryz.prog 4 [] (.bool true) true) (n : Net) (s : ByteArray) : RealCall Tryz.prog 3 [aNet n, .str s] (.bool true) true := by
  have cf := few_c n
  cases hf : fewB n with
  | false =>
    rw [hf] at cf
    unfold aNet cNet at *
    refine realcall_intro Tryz.func3 (by kernel_rfl) rfl (Nat.le_of_ble_eq_true (by kernel_rfl)) ?_
    simp only [Tryz.results3, Tryz.ntmps3]
    repeat' (first | (with_reducible first | refine awp_seq ?_ | refine awp_blockS ?_ | refine awp_blockC ?_ | refine awp_blockR ?_ | refine awp_skip ?_ | refine awp_ret ?_ | refine awp_exit ?_ | refine awp_region ?_ | refine awp_condM ?_ | refine And.intro ?_ ?_ | apply gQ_merge | apply gE_merge | exact EqV_w | exact EqE_w | exact EqV_ptr | exact EqE_ptr | exact EqV_msl | exact EqE_msl | exact EqV_agg | exact EqE_agg | exact EqV_fn | exact EqE_fn | exact EqV_gd | exact EqE_gd | refine gM_splitN ?_ ?_ | refine gM_split ?_ ?_ |  refine condM_splitDN ?_ ?_ | refine condM_splitD ?_ ?_ | refine condM_splitN ?_ ?_ | refine condM_split ?_ ?_ | refine condM_any ?_ ?_ | refine cw (hA) ?_ | refine cw (cf) ?_ | intro _) | (simp [*]) | (refine cw_eq (hA) ?_ ?_; (· (simp [*]; done))) | (refine cw_eq (cf) ?_ ?_; (· (simp [*]; done))))
  | true =>
    rw [hf] at cf
    have h := few_in hf
    by_cases h300 : 300 < s.size
    · have h300I : (300 : Int) < (s.size : Int) := by omega
      clear h hf
      unfold aNet cNet at *
      refine realcall_intro Tryz.func3 (by kernel_rfl) rfl (Nat.le_of_ble_eq_true (by kernel_rfl)) ?_
      simp only [Tryz.results3, Tryz.ntmps3]
      repeat' (first | (with_reducible first | refine awp_seq ?_ | refine awp_blockS ?_ | refine awp_blockC ?_ | refine awp_blockR ?_ | refine awp_skip ?_ | refine awp_ret ?_ | refine awp_exit ?_ | refine awp_region ?_ | refine awp_condM ?_ | refine And.intro ?_ ?_ | apply gQ_merge | apply gE_merge | exact EqV_w | exact EqE_w | exact EqV_ptr | exact EqE_ptr | exact EqV_msl | exact EqE_msl | exact EqV_agg | exact EqE_agg | exact EqV_fn | exact EqE_fn | exact EqV_gd | exact EqE_gd | refine gM_splitN ?_ ?_ | refine gM_split ?_ ?_ |  refine condM_splitDN ?_ ?_ | refine condM_splitD ?_ ?_ | refine condM_splitN ?_ ?_ | refine condM_split ?_ ?_ | refine condM_any ?_ ?_ | refine cw (hA) ?_ | refine cw (cf) ?_ | intro _) | (simp [*, h300I]) | (refine cw_eq (hA) ?_ ?_; (· (simp [*]; done))) | (refine cw_eq (cf) ?_ ?_; (· (simp [*]; done))))
    · have h300I : ¬ (300 : Int) < (s.size : Int) := by omega
      have hps := pin_small (s := s) (by omega)
      have cc := rCopy_c n h
      have cP := pParse_c s hps
      have cR := rParse_c s (by omega)
      have cS := same_c _ (parseN_in hps)
      have cE := rNetErr_c n h
      generalize parseN s = R at *
      obtain ⟨N, a, b⟩ := R
      dsimp only at cP cR cS
      by_cases hn : (netS n).2.2 = 0
      · have ok := net_ok h hn
        have cp := print_ok n h ok hn
        have cr := rPrint_c n h ok
        have cb := pParse_c (printS n) (print_in ok)
        rw [parse_print ok hn] at cb
        dsimp only at cb
        have cs := same_c n h
        rw [hn] at cE
        generalize printS n = t at *
        clear h hf hps ok hn h300
        unfold aNet cNet at *
        refine realcall_intro Tryz.func3 (by kernel_rfl) rfl (Nat.le_of_ble_eq_true (by kernel_rfl)) ?_
        simp only [Tryz.results3, Tryz.ntmps3]
        repeat' (first | (with_reducible first | refine awp_seq ?_ | refine awp_blockS ?_ | refine awp_blockC ?_ | refine awp_blockR ?_ | refine awp_skip ?_ | refine awp_ret ?_ | refine awp_exit ?_ | refine awp_region ?_ | refine awp_condM ?_ | refine And.intro ?_ ?_ | apply gQ_merge | apply gE_merge | exact EqV_w | exact EqE_w | exact EqV_ptr | exact EqE_ptr | exact EqV_msl | exact EqE_msl | exact EqV_agg | exact EqE_agg | exact EqV_fn | exact EqE_fn | exact EqV_gd | exact EqE_gd | refine gM_splitN ?_ ?_ | refine gM_split ?_ ?_ |  refine condM_splitDN ?_ ?_ | refine condM_splitD ?_ ?_ | refine condM_splitN ?_ ?_ | refine condM_split ?_ ?_ | refine condM_any ?_ ?_ | refine cw (hA) ?_ | refine cw (cf) ?_ | refine cw (cc) ?_ | refine cw (cP) ?_ | refine cw (cR) ?_ | refine cw (cS) ?_ | refine cw (cE) ?_ | refine cw (cp) ?_ | refine cw (cr) ?_ | refine cw (cb) ?_ | refine cw (cs) ?_ | intro _) | (simp [*, h300I]) | (refine cw_eq (hA) ?_ ?_; (· (simp [*]; done))) | (refine cw_eq (cf) ?_ ?_; (· (simp [*]; done))) | (refine cw_eq (cc) ?_ ?_; (· (simp [*]; done))) | (refine cw_eq (cP) ?_ ?_; (· (simp [*]; done))) | (refine cw_eq (cR) ?_ ?_; (· (simp [*]; done))) | (refine cw_eq (cS) ?_ ?_; (· (simp [*]; done))) | (refine cw_eq (cE) ?_ ?_; (· (simp [*]; done))) | (refine cw_eq (cp) ?_ ?_; (· (simp [*]; done))) | (refine cw_eq (cr) ?_ ?_; (· (simp [*]; done))) | (refine cw_eq (cb) ?_ ?_; (· (simp [*]; done))) | (refine cw_eq (cs) ?_ ?_; (· (simp [*]; done))))
      · have cp := print_bad n h hn
        generalize (netS n).2.2 = e at *
        clear h hf hps h300
        unfold aNet cNet at *
        refine realcall_intro Tryz.func3 (by kernel_rfl) rfl (Nat.le_of_ble_eq_true (by kernel_rfl)) ?_
        simp only [Tryz.results3, Tryz.ntmps3]
        repeat' (first | (with_reducible first | refine awp_seq ?_ | refine awp_blockS ?_ | refine awp_blockC ?_ | refine awp_blockR ?_ | refine awp_skip ?_ | refine awp_ret ?_ | refine awp_exit ?_ | refine awp_region ?_ | refine awp_condM ?_ | refine And.intro ?_ ?_ | apply gQ_merge | apply gE_merge | exact EqV_w | exact EqE_w | exact EqV_ptr | exact EqE_ptr | exact EqV_msl | exact EqE_msl | exact EqV_agg | exact EqE_agg | exact EqV_fn | exact EqE_fn | exact EqV_gd | exact EqE_gd | refine gM_splitN ?_ ?_ | refine gM_split ?_ ?_ |  refine condM_splitDN ?_ ?_ | refine condM_splitD ?_ ?_ | refine condM_splitN ?_ ?_ | refine condM_split ?_ ?_ | refine condM_any ?_ ?_ | refine cw (hA) ?_ | refine cw (cf) ?_ | refine cw (cc) ?_ | refine cw (cP) ?_ | refine cw (cR) ?_ | refine cw (cS) ?_ | refine cw (cE) ?_ | refine cw (cp) ?_ | intro _) | (simp [*, h300I, hn]) | (refine cw_eq (hA) ?_ ?_; (· (simp [*]; done))) | (refine cw_eq (cf) ?_ ?_; (· (simp [*]; done))) | (refine cw_eq (cc) ?_ ?_; (· (simp [*]; done))) | (refine cw_eq (cP) ?_ ?_; (· (simp [*]; done))) | (refine cw_eq (cR) ?_ ?_; (· (simp [*]; done))) | (refine cw_eq (cS) ?_ ?_; (· (simp [*]; done))) | (refine cw_eq (cE) ?_ ?_; (· (simp [*]; done))) | (refine cw_eq (cp) ?_ ?_; (· (simp [*]; done))))
end Go.Proofs.YtfpamehamllndaaGreatDoor

