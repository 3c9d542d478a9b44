/- Contracts of functions for this claim: lemmas alone. -/
import Derived.Test.YtdgbfbgnbgfmjaaP86
import Derived.Test.YtdgbfbgnbgfmjaaP67
set_option linter.unusedSimpArgs false
set_option linter.unusedVariables false
namespace Go.Proofs.Ytdgbfbgnbgfmjaa
open Go Go.Fi
set_option maxRecDepth 20000

/-! ### a right book stays right: plain laws of posting -/
theorem linesF_eq {a : List Acc} : ∀ (l : List Line) (i : Nat) (s : Int), (∀ y ∈ l, lineE a y = 0) → linesF a l i s = (0, errUnless (decide (s + sumA l = 0)) 27)
  | [], _, s, _ => by
    unfold linesF sumA
    rw [Int.add_zero]
  | y :: r, i, s, h => by
    unfold linesF
    rw [if_pos (h y (by simp)), linesF_eq r (i + 1) (s + y.amt) (fun z hz => h z (by simp [hz]))]
    rw [Int.add_assoc]
    rfl
theorem entryS_sum {a : List Acc} {e : Entry} (h : (entryS a e).2 = 0) : sumA e.lines = 0 := by
  have hz := entryS_zero h
  unfold entryS at h
  rw [if_pos hz.1, linesF_eq e.lines 0 0 (fun y hy => by obtain ⟨k, hk, rfl⟩ := mem_nth hy; exact hz.2 k hk)] at h
  have := of_decide_eq_true (unless_zero h (by decide))
  omega
theorem bookF_mk {a : List Acc} {c : Int} : ∀ (l : List Entry) (i : Nat) (s : Int), (∀ y ∈ l, (entryS a y).2 = 0) → (∀ y ∈ l, s ≤ y.date) → l.Pairwise (fun x y => x.date ≤ y.date) → winB c 0 4000 = true → (bookF a c l i s).2 = 0
  | [], _, _, _, _, _, hc => by
    unfold bookF
    rw [hc]
    rfl
  | y :: r, i, s, h, hs, hp, hc => by
    unfold bookF
    rw [if_pos (entE_ok (h y (by simp)) (hs y (by simp)))]
    exact bookF_mk r (i + 1) y.date (fun z hz => h z (by simp [hz])) (fun z hz => (List.pairwise_cons.1 hp).1 z hz) (List.pairwise_cons.1 hp).2 hc
theorem bookF_cl {a : List Acc} {c : Int} : ∀ (l : List Entry) (i : Nat) (s : Int), (bookF a c l i s).2 = 0 → winB c 0 4000 = true
  | [], _, _, h => by
    unfold bookF at h
    exact unless_zero h (by decide)
  | y :: r, i, s, h => by
    unfold bookF at h
    by_cases hy : entE a s y = 0
    · rw [if_pos hy] at h; exact bookF_cl r _ _ h
    · rw [if_neg hy] at h; exact absurd h hy
theorem bookS_cl {b : Book} (h : (bookS b).2 = 0) : winB b.closed 0 4000 = true := by
  unfold bookS at h
  by_cases hh : bookH b = 0
  · rw [if_pos hh] at h; exact bookF_cl _ _ _ h
  · rw [if_neg hh] at h; exact absurd h hh
theorem bookS_pair {b : Book} (h : (bookS b).2 = 0) : b.entries.Pairwise (fun x y => x.date ≤ y.date) := by
  have hs := bookS_sorted h
  rw [List.pairwise_iff_getElem]
  intro i j hi hj hij
  have := hs i j (by omega) hj
  simp only [nth, List.getD_eq_getElem?_getD, List.getElem?_eq_getElem hi, List.getElem?_eq_getElem hj, Option.getD_some] at this
  exact this
theorem post_pair {l : List Entry} (x : Entry) (hp : l.Pairwise (fun x y => x.date ≤ y.date)) : (insAt l (postAt x.date l) [x]).Pairwise (fun x y => x.date ≤ y.date) := by
  have hle := postAt_le x.date l
  have hlo : ∀ y ∈ l.take (postAt x.date l), y.date ≤ x.date := fun y hy => by
    obtain ⟨k, hk, rfl⟩ := List.mem_iff_getElem.1 hy
    rw [List.length_take] at hk
    have := postAt_lo x.date l k (by omega)
    simp only [nth, List.getD_eq_getElem?_getD] at this
    rw [List.getElem?_eq_getElem (show k < l.length by omega)] at this
    rw [List.getElem_take]
    exact this
  have hhi : ∀ y ∈ l.drop (postAt x.date l), x.date ≤ y.date := fun y hy => by
    obtain ⟨k, hk, rfl⟩ := List.mem_iff_getElem.1 hy
    rw [List.length_drop] at hk
    have h0 : postAt x.date l < l.length := by omega
    have h1 := postAt_hi x.date l h0
    rw [List.getElem_drop]
    have h2 : (nth l (postAt x.date l)).date ≤ l[postAt x.date l + k].date := by
      rcases Nat.eq_zero_or_pos k with rfl | hk0
      · simp [nth, h0]
      · have := (List.pairwise_iff_getElem.1 hp) (postAt x.date l) (postAt x.date l + k) h0 (by omega) (by omega)
        simp only [nth, List.getD_eq_getElem?_getD, List.getElem?_eq_getElem h0, Option.getD_some]
        exact this
    omega
  unfold insAt
  rw [List.pairwise_append]
  refine ⟨?_, hp.sublist (List.drop_sublist _ _), fun a ha c hc => ?_⟩
  · rw [List.pairwise_append]
    refine ⟨hp.sublist (List.take_sublist _ _), by simp, fun a ha c hc => ?_⟩
    rw [List.mem_singleton] at hc
    subst hc
    exact hlo a ha
  · rcases List.mem_append.1 ha with ha | ha
    · exact Int.le_trans (hlo a ha) (hhi c hc)
    · rw [List.mem_singleton] at ha
      subst ha
      exact hhi c hc
theorem mem_insAt {α : Type} {l : List α} {p : Nat} {x y : α} (h : y ∈ insAt l p [x]) : y = x ∨ y ∈ l := by
  unfold insAt at h
  simp only [List.mem_append, List.mem_singleton] at h
  rcases h with (h | h) | h
  · exact .inr (List.mem_of_mem_take h)
  · exact .inl h
  · exact .inr (List.mem_of_mem_drop h)
theorem post_right {b : Book} {x : Entry} (h0 : (bookS b).2 = 0) (hx : (entryS b.accs x).2 = 0) (hl : b.entries.length < 100) : (bookS (postS b x)).2 = 0 := by
  have hr := bookS_zero h0
  have hent : ∀ y ∈ (postS b x).entries, (entryS b.accs y).2 = 0 := fun y hy => by
    rcases mem_insAt hy with rfl | hy
    · exact hx
    · obtain ⟨k, hk, rfl⟩ := mem_nth hy
      exact hr.ent k hk
  have hH : bookH (postS b x) = 0 := by
    unfold bookH
    have : ((postS b x).entries.length : Int) ≤ 100 := by
      unfold postS
      dsimp only
      rw [insAt_one _ _ _ (postAt_le _ _)]
      omega
    rw [decide_eq_true this, show (accsS (postS b x).accs).2 = 0 from hr.accs]
    rfl
  unfold bookS
  rw [if_pos hH]
  exact bookF_mk _ _ _ hent (fun y hy => entryS_date (hent y hy)) (post_pair x (bookS_pair h0)) (bookS_cl (b := b) h0)
theorem balS_app (n : ByteArray) (d : Int) (l r : List Entry) : balS n d (l ++ r) = balS n d l + balS n d r := by
  induction l with
  | nil => simp [balS]
  | cons y l ih =>
    simp only [List.cons_append, balS]
    rw [ih]
    split <;> omega
theorem balS_post (n : ByteArray) (d : Int) (b : Book) (x : Entry) : balS n d (postS b x).entries = balS n d b.entries + (if x.date ≤ d then putS n x.lines else 0) := by
  unfold postS insAt
  dsimp only
  rw [balS_app, balS_app]
  have h := balS_app n d (b.entries.take (postAt x.date b.entries)) (b.entries.drop (postAt x.date b.entries))
  rw [List.take_append_drop] at h
  rw [h]
  have h1 : balS n d [x] = if x.date ≤ d then putS n x.lines else 0 := by
    simp only [balS]
    split <;> omega
  omega
theorem accsF_diff : ∀ (l : List Acc) (a : List Acc) (i : Nat), i ≤ l.length → a = l.drop i → (accsF l a i).2 = 0 → ∀ k, i ≤ k → k < l.length → hasS (l.take k) (nth l k).name = false
  | l, [], i, hi, ha, _, k, hk, hl => by
    have := congrArg List.length ha
    simp at this
    omega
  | l, y :: r, i, hi, ha, h, k, hk, hl => by
    have hil : i < l.length := by
      rcases Nat.lt_or_ge i l.length with h | h
      · exact h
      · rw [List.drop_eq_nil_of_le h] at ha; cases ha
    have hy : y = nth l i ∧ r = l.drop (i + 1) := by
      rw [List.drop_eq_getElem_cons hil] at ha
      injection ha with h1 h2
      exact ⟨by rw [h1]; simp [nth, hil], h2⟩
    unfold accsF at h
    by_cases hq : accE (l.take i) y = 0
    · rw [if_pos hq] at h
      rcases Nat.eq_or_lt_of_le hk with rfl | hk
      · have := unless_zero (firstS_zero hq (errUnless (!hasS (l.take i) y.name) 5) (by simp)) (by decide)
        rw [hy.1] at this
        simpa using this
      · exact accsF_diff l r (i + 1) (by omega) hy.2 h k (by omega) hl
    · rw [if_neg hq] at h; exact absurd h hq
theorem accs_diff {l : List Acc} (h : (accsS l).2 = 0) : ∀ j k, j < k → k < l.length → (nth l j).name ≠ (nth l k).name := by
  intro j k hj hk he
  unfold accsS at h
  have h1 : ¬ l.length = 0 := by omega
  rw [if_neg h1] at h
  have h2 : ¬ 20 < l.length := by intro hh; rw [if_pos hh] at h; exact absurd h (by decide)
  rw [if_neg h2] at h
  have hd := accsF_diff l l 0 (by omega) rfl h k (by omega) hk
  have ht : hasS (l.take k) (nth l k).name = true := by
    unfold hasS
    rw [List.any_eq_true]
    refine ⟨nth l j, ?_, by unfold isA; exact decide_eq_true he⟩
    rw [List.mem_iff_getElem]
    refine ⟨j, by rw [List.length_take]; omega, ?_⟩
    simp [nth, show j < l.length by omega]
  rw [hd] at ht
  cases ht
end Go.Proofs.Ytdgbfbgnbgfmjaa
namespace Go.Proofs.Ytdgbfbgnbgfmjaa
open Go Go.Fi
set_option maxRecDepth 20000

/-! ### income and cost come to nothing: the plain law of the closing entry -/
theorem idxF_nth {α : Type} [Inhabited α] (p : α → Bool) : ∀ (l : List α) (i : Nat), 0 ≤ idxF p l i → (i : Int) ≤ idxF p l i ∧ (idxF p l i).toNat - i < l.length ∧ p (nth l ((idxF p l i).toNat - i)) = true
  | [], i, h => by unfold idxF at h; exact absurd h (by decide)
  | x :: r, i, h => by
    unfold idxF at h ⊢
    by_cases hx : p x = true
    · rw [if_pos hx]
      refine ⟨Int.le_refl _, by simp, ?_⟩
      rw [Int.toNat_natCast, Nat.sub_self]
      exact hx
    · rw [if_neg hx] at h ⊢
      obtain ⟨h1, h2, h3⟩ := idxF_nth p r (i + 1) h
      refine ⟨by omega, by simp only [List.length_cons]; omega, ?_⟩
      have he : (idxF p r (i + 1)).toNat - i = ((idxF p r (i + 1)).toNat - (i + 1)) + 1 := by omega
      rw [he]
      exact h3
theorem find_nth {l : List Acc} {n : ByteArray} (h : hasS l n = true) : (findS l n).toNat < l.length ∧ (nth l (findS l n).toNat).name = n := by
  have h1 := of_decide_eq_true ((find_has l n).trans h)
  have h2 := idxF_nth (isA n) l 0 h1
  rw [Nat.sub_zero] at h2
  exact ⟨h2.2.1, of_decide_eq_true h2.2.2⟩
end Go.Proofs.Ytdgbfbgnbgfmjaa
namespace Go.Proofs.Ytdgbfbgnbgfmjaa
open Go Go.Fi
set_option maxRecDepth 20000

/-! ### all comes to nothing: plain laws -/
def totK (f : ByteArray → Int) (l : List Acc) : Nat → Int
  | 0 => 0
  | k + 1 => totK f l k + f (nth l k).name
@[simp] theorem totK_zero (f : ByteArray → Int) (l : List Acc) : totK f l 0 = 0 := rfl
theorem totK_succ (f : ByteArray → Int) (l : List Acc) (k : Nat) : totK f l (k + 1) = totK f l k + f (nth l k).name := rfl
theorem totK_add (f g : ByteArray → Int) (l : List Acc) : ∀ k, totK (fun n => f n + g n) l k = totK f l k + totK g l k
  | 0 => rfl
  | k + 1 => by rw [totK_succ, totK_succ, totK_succ, totK_add f g l k]; omega
theorem totK_none (l : List Acc) : ∀ k, totK (fun _ => 0) l k = 0
  | 0 => rfl
  | k + 1 => by rw [totK_succ, totK_none l k]; rfl
theorem totK_line {l : List Acc} (hd : ∀ j k, j < k → k < l.length → (nth l j).name ≠ (nth l k).name) (y : Line) (h : hasS l y.acc = true) : totK (fun n => if y.acc = n then y.amt else 0) l l.length = y.amt := by
  obtain ⟨h1, h2⟩ := find_nth h
  generalize (findS l y.acc).toNat = i at *
  have : ∀ k, k ≤ l.length → totK (fun n => if y.acc = n then y.amt else 0) l k = if i < k then y.amt else 0 := by
    intro k
    induction k with
    | zero => intro _; rfl
    | succ k ih =>
      intro hk
      rw [totK_succ, ih (by omega)]
      by_cases he : i = k
      · subst he
        rw [if_neg (by omega), if_pos h2.symm, if_pos (by omega)]
        omega
      · have hne : ¬ y.acc = (nth l k).name := by
          rw [← h2]
          rcases Nat.lt_or_ge i k with hlt | hge
          · exact hd i k hlt (by omega)
          · exact fun e => hd k i (by omega) h1 e.symm
        rw [if_neg hne]
        by_cases hlt : i < k
        · rw [if_pos hlt, if_pos (by omega)]; omega
        · rw [if_neg hlt, if_neg (by omega)]; rfl
  rw [this l.length (Nat.le_refl _), if_pos h1]
theorem totK_put {l : List Acc} (hd : ∀ j k, j < k → k < l.length → (nth l j).name ≠ (nth l k).name) : ∀ (L : List Line), (∀ y ∈ L, hasS l y.acc = true) → totK (fun n => putS n L) l l.length = sumA L
  | [], _ => totK_none l l.length
  | y :: r, h => by
    have e := totK_add (fun n => if y.acc = n then y.amt else 0) (fun n => putS n r) l l.length
    rw [totK_line hd y (h y (by simp)), totK_put hd r (fun z hz => h z (by simp [hz]))] at e
    exact e
theorem totK_bal {l : List Acc} (hd : ∀ j k, j < k → k < l.length → (nth l j).name ≠ (nth l k).name) (d : Int) : ∀ (es : List Entry), (∀ e ∈ es, (entryS l e).2 = 0) → totK (fun n => balS n d es) l l.length = 0
  | [], _ => totK_none l l.length
  | e :: r, h => by
    have he := h e (by simp)
    have hz := entryS_zero he
    have e1 := totK_add (fun n => if e.date ≤ d then putS n e.lines else 0) (fun n => balS n d r) l l.length
    rw [totK_bal hd d r (fun z hz => h z (by simp [hz]))] at e1
    have e2 : totK (fun n => if e.date ≤ d then putS n e.lines else 0) l l.length = 0 := by
      by_cases hdt : e.date ≤ d
      · have : (fun n => if e.date ≤ d then putS n e.lines else 0) = fun n => putS n e.lines := by funext n; rw [if_pos hdt]
        rw [this, totK_put hd e.lines (fun y hy => by obtain ⟨k, hk, rfl⟩ := mem_nth hy; exact (lineE_zero (hz.2 k hk)).1)]
        exact entryS_sum he
      · have : (fun n => if e.date ≤ d then putS n e.lines else 0) = fun _ => 0 := by funext n; rw [if_neg hdt]
        rw [this]
        exact totK_none l l.length
    rw [e2] at e1
    exact e1
theorem balanced_all {b : Book} (h0 : (bookS b).2 = 0) (d : Int) : totK (fun n => balS n d b.entries) b.accs b.accs.length = 0 :=
  totK_bal (accs_diff (bookS_zero h0).accs) d b.entries (fun e he => by obtain ⟨k, hk, rfl⟩ := mem_nth he; exact (bookS_zero h0).ent k hk)
/-! ### the program's reversed entries -/
end Go.Proofs.Ytdgbfbgnbgfmjaa

