/- Contracts of functions for this claim: lemmas alone. -/
import Derived.Test.YtlcimflkjfbaoaaGreatP86
import Derived.Test.YtlcimflkjfbaoaaGreatP67
set_option linter.unusedSimpArgs false
set_option linter.unusedVariables false
namespace Go.Proofs.YtlcimflkjfbaoaaGreat
open Go Go.Fi
set_option maxRecDepth 20000

/-! ### a right book stays right: plain laws of posting -/
theorem linesF_eq {a : List Acc} : ∀ (l : List Line) (i : Nat) (s : Int), (∀ y ∈ l, lineE a y = 0) → linesF a l i s = (0, errUnless (decide (s + sumA l = 0)) 27)
  | [], _, s, _ => by
    unfold linesF sumA
    rw [Int.add_zero]
  | y :: r, i, s, h => by
    unfold linesF
    rw [if_pos (h y (by simp)), linesF_eq r (i + 1) (s + y.amt) (fun z hz => h z (by simp [hz]))]
    rw [Int.add_assoc]
    rfl
theorem entryS_sum {a : List Acc} {e : Entry} (h : (entryS a e).2 = 0) : sumA e.lines = 0 := by
  have hz := entryS_zero h
  unfold entryS at h
  rw [if_pos hz.1, linesF_eq e.lines 0 0 (fun y hy => by obtain ⟨k, hk, rfl⟩ := mem_nth hy; exact hz.2 k hk)] at h
  have := of_decide_eq_true (unless_zero h (by decide))
  omega
theorem entryS_mk {a : List Acc} {e : Entry} (h1 : headE e = 0) (h2 : ∀ y ∈ e.lines, lineE a y = 0) (h3 : sumA e.lines = 0) : (entryS a e).2 = 0 := by
  unfold entryS
  rw [if_pos h1, linesF_eq e.lines 0 0 h2, h3]
  rfl
theorem lineE_mk {l : List Acc} {y : Line} (h1 : hasS l y.acc = true) (h2 : y.amt ≠ 0) (h3 : smallB y.amt 1000000000 = true) : lineE l y = 0 := by
  unfold lineE
  rw [h1, h3, decide_eq_false h2]
  rfl
theorem bookF_mk {a : List Acc} {c : Int} : ∀ (l : List Entry) (i : Nat) (s : Int), (∀ y ∈ l, (entryS a y).2 = 0) → (∀ y ∈ l, s ≤ y.date) → l.Pairwise (fun x y => x.date ≤ y.date) → winB c 0 4000 = true → (bookF a c l i s).2 = 0
  | [], _, _, _, _, _, hc => by
    unfold bookF
    rw [hc]
    rfl
  | y :: r, i, s, h, hs, hp, hc => by
    unfold bookF
    rw [if_pos (entE_ok (h y (by simp)) (hs y (by simp)))]
    exact bookF_mk r (i + 1) y.date (fun z hz => h z (by simp [hz])) (fun z hz => (List.pairwise_cons.1 hp).1 z hz) (List.pairwise_cons.1 hp).2 hc
theorem bookF_cl {a : List Acc} {c : Int} : ∀ (l : List Entry) (i : Nat) (s : Int), (bookF a c l i s).2 = 0 → winB c 0 4000 = true
  | [], _, _, h => by
    unfold bookF at h
    exact unless_zero h (by decide)
  | y :: r, i, s, h => by
    unfold bookF at h
    by_cases hy : entE a s y = 0
    · rw [if_pos hy] at h; exact bookF_cl r _ _ h
    · rw [if_neg hy] at h; exact absurd h hy
theorem bookS_cl {b : Book} (h : (bookS b).2 = 0) : winB b.closed 0 4000 = true := by
  unfold bookS at h
  by_cases hh : bookH b = 0
  · rw [if_pos hh] at h; exact bookF_cl _ _ _ h
  · rw [if_neg hh] at h; exact absurd h hh
theorem bookS_pair {b : Book} (h : (bookS b).2 = 0) : b.entries.Pairwise (fun x y => x.date ≤ y.date) := by
  have hs := bookS_sorted h
  rw [List.pairwise_iff_getElem]
  intro i j hi hj hij
  have := hs i j (by omega) hj
  simp only [nth, List.getD_eq_getElem?_getD, List.getElem?_eq_getElem hi, List.getElem?_eq_getElem hj, Option.getD_some] at this
  exact this
theorem post_pair {l : List Entry} (x : Entry) (hp : l.Pairwise (fun x y => x.date ≤ y.date)) : (insAt l (postAt x.date l) [x]).Pairwise (fun x y => x.date ≤ y.date) := by
  have hle := postAt_le x.date l
  have hlo : ∀ y ∈ l.take (postAt x.date l), y.date ≤ x.date := fun y hy => by
    obtain ⟨k, hk, rfl⟩ := List.mem_iff_getElem.1 hy
    rw [List.length_take] at hk
    have := postAt_lo x.date l k (by omega)
    simp only [nth, List.getD_eq_getElem?_getD] at this
    rw [List.getElem?_eq_getElem (show k < l.length by omega)] at this
    rw [List.getElem_take]
    exact this
  have hhi : ∀ y ∈ l.drop (postAt x.date l), x.date ≤ y.date := fun y hy => by
    obtain ⟨k, hk, rfl⟩ := List.mem_iff_getElem.1 hy
    rw [List.length_drop] at hk
    have h0 : postAt x.date l < l.length := by omega
    have h1 := postAt_hi x.date l h0
    rw [List.getElem_drop]
    have h2 : (nth l (postAt x.date l)).date ≤ l[postAt x.date l + k].date := by
      rcases Nat.eq_zero_or_pos k with rfl | hk0
      · simp [nth, h0]
      · have := (List.pairwise_iff_getElem.1 hp) (postAt x.date l) (postAt x.date l + k) h0 (by omega) (by omega)
        simp only [nth, List.getD_eq_getElem?_getD, List.getElem?_eq_getElem h0, Option.getD_some]
        exact this
    omega
  unfold insAt
  rw [List.pairwise_append]
  refine ⟨?_, hp.sublist (List.drop_sublist _ _), fun a ha c hc => ?_⟩
  · rw [List.pairwise_append]
    refine ⟨hp.sublist (List.take_sublist _ _), by simp, fun a ha c hc => ?_⟩
    rw [List.mem_singleton] at hc
    subst hc
    exact hlo a ha
  · rcases List.mem_append.1 ha with ha | ha
    · exact Int.le_trans (hlo a ha) (hhi c hc)
    · rw [List.mem_singleton] at ha
      subst ha
      exact hhi c hc
theorem mem_insAt {α : Type} {l : List α} {p : Nat} {x y : α} (h : y ∈ insAt l p [x]) : y = x ∨ y ∈ l := by
  unfold insAt at h
  simp only [List.mem_append, List.mem_singleton] at h
  rcases h with (h | h) | h
  · exact .inr (List.mem_of_mem_take h)
  · exact .inl h
  · exact .inr (List.mem_of_mem_drop h)
theorem post_right {b : Book} {x : Entry} (h0 : (bookS b).2 = 0) (hx : (entryS b.accs x).2 = 0) (hl : b.entries.length < 100) : (bookS (postS b x)).2 = 0 := by
  have hr := bookS_zero h0
  have hent : ∀ y ∈ (postS b x).entries, (entryS b.accs y).2 = 0 := fun y hy => by
    rcases mem_insAt hy with rfl | hy
    · exact hx
    · obtain ⟨k, hk, rfl⟩ := mem_nth hy
      exact hr.ent k hk
  have hH : bookH (postS b x) = 0 := by
    unfold bookH
    have : ((postS b x).entries.length : Int) ≤ 100 := by
      unfold postS
      dsimp only
      rw [insAt_one _ _ _ (postAt_le _ _)]
      omega
    rw [decide_eq_true this, show (accsS (postS b x).accs).2 = 0 from hr.accs]
    rfl
  unfold bookS
  rw [if_pos hH]
  exact bookF_mk _ _ _ hent (fun y hy => entryS_date (hent y hy)) (post_pair x (bookS_pair h0)) (bookS_cl (b := b) h0)
end Go.Proofs.YtlcimflkjfbaoaaGreat
namespace Go.Proofs.YtlcimflkjfbaoaaGreat
open Go Go.Fi
set_option maxRecDepth 20000

/-! ### income and cost come to nothing: the plain law of the closing entry -/
end Go.Proofs.YtlcimflkjfbaoaaGreat
namespace Go.Proofs.YtlcimflkjfbaoaaGreat
open Go Go.Fi
set_option maxRecDepth 20000

/-! ### all comes to nothing: plain laws -/
def totK (f : ByteArray → Int) (l : List Acc) : Nat → Int
  | 0 => 0
  | k + 1 => totK f l k + f (nth l k).name
@[simp] theorem totK_zero (f : ByteArray → Int) (l : List Acc) : totK f l 0 = 0 := rfl
theorem negL_len' (L : List Line) : (negL L).length = L.length := by simp [negL]
theorem putS_neg (n : ByteArray) : ∀ L : List Line, putS n (negL L) = -(putS n L)
  | [] => rfl
  | y :: r => by
    have ih := putS_neg n r
    unfold negL at ih ⊢
    simp only [List.map_cons, putS]
    rw [ih]
    split <;> omega
theorem sumA_neg : ∀ L : List Line, sumA (negL L) = -(sumA L)
  | [] => rfl
  | y :: r => by
    have ih := sumA_neg r
    unfold negL at ih ⊢
    simp only [List.map_cons, sumA]
    rw [ih]
    omega
theorem entryS_neg {a : List Acc} {e : Entry} (h : (entryS a e).2 = 0) : (entryS a ⟨e.date, e.note, negL e.lines⟩).2 = 0 := by
  have hz := entryS_zero h
  refine entryS_mk ?_ (fun y hy => ?_) (by dsimp only; rw [sumA_neg, entryS_sum h]; rfl)
  · have := hz.1
    unfold headE at this ⊢
    dsimp only
    rw [negL_len']
    exact this
  · unfold negL at hy
    rw [List.mem_map] at hy
    obtain ⟨z, hz1, rfl⟩ := hy
    obtain ⟨k, hk, rfl⟩ := mem_nth hz1
    obtain ⟨q1, q2, q3, q4⟩ := lineE_zero (hz.2 k hk)
    exact lineE_mk q1 (by dsimp only; omega) (by unfold smallB; exact winB_iff.2 (by dsimp only; omega))
/-! ### the program's reversed entries -/
end Go.Proofs.YtlcimflkjfbaoaaGreat

