/- Contracts of functions for this claim: lemmas alone. -/
import Derived.Test.YtmkahgnfoefnjaaPTypes
set_option linter.unusedSimpArgs false
set_option linter.unusedVariables false
namespace Go.Proofs.Ytmkahgnfoefnjaa
open Go Go.Fi

/-! ### classes of a relation, ordered by their least members (no program in sight) -/
section
variable (mu : Nat → Nat → Bool)
def repB (j : Nat) : Bool := (List.range j).all fun k => !mu j k
def repsI (i : Nat) : List Nat := (List.range i).filter (repB mu)
def clsI (i j : Nat) : List Nat := (List.range i).filter (mu j)
def islI (i : Nat) : List (List Nat) := (repsI mu i).map (clsI mu i)
def hitB (i : Nat) (l : List Nat) : Bool := mu i (nth l 0)
def atF (i : Nat) : List (List Nat) → Nat → Int
  | [], _ => -1
  | l :: r, k => if hitB mu i l = true then (k : Int) else atF i r (k + 1)
structure Eqv (N : Nat) : Prop where
  refl : ∀ i, i < N → mu i i = true
  sym : ∀ i j, i < N → j < N → mu i j = true → mu j i = true
  trans : ∀ i j k, i < N → j < N → k < N → mu i j = true → mu j k = true → mu i k = true
variable {mu} {N : Nat}
theorem repB_iff {j : Nat} : repB mu j = true ↔ ∀ k, k < j → mu j k = false := by
  unfold repB
  rw [List.all_eq_true]
  constructor
  · intro h k hk; simpa using h k (List.mem_range.2 hk)
  · intro h k hk; simpa using h k (List.mem_range.1 hk)
theorem mem_reps {i j : Nat} : j ∈ repsI mu i ↔ j < i ∧ repB mu j = true := by
  unfold repsI; rw [List.mem_filter, List.mem_range]
theorem reps_succ (i : Nat) : repsI mu (i + 1) = repsI mu i ++ (if repB mu i = true then [i] else []) := by
  unfold repsI
  rw [List.range_succ, List.filter_append]
  congr 1
  by_cases h : repB mu i = true
  · rw [if_pos h, List.filter_cons_of_pos h]; rfl
  · rw [if_neg h, List.filter_cons_of_neg h]; rfl
theorem cls_succ (i j : Nat) : clsI mu (i + 1) j = clsI mu i j ++ (if mu j i = true then [i] else []) := by
  unfold clsI
  rw [List.range_succ, List.filter_append]
  congr 1
  by_cases h : mu j i = true
  · rw [if_pos h, List.filter_cons_of_pos h]; rfl
  · rw [if_neg h, List.filter_cons_of_neg h]; rfl
/-- the least member of a class is its representative -/
theorem cls_head (he : Eqv mu N) : ∀ {i j : Nat}, i ≤ N → j < i → repB mu j = true → ∃ r, clsI mu i j = j :: r
  | 0, j, _, hj, _ => absurd hj (Nat.not_lt_zero j)
  | i + 1, j, hi, hj, hr => by
    rw [cls_succ]
    by_cases e : j < i
    · obtain ⟨r, h⟩ := cls_head he (by omega) e hr
      rw [h]; exact ⟨_, rfl⟩
    · have e : j = i := by omega
      subst e
      have h0 : clsI mu j j = [] := by
        unfold clsI
        rw [List.filter_eq_nil_iff]
        intro k hk
        rw [repB_iff.1 hr k (List.mem_range.1 hk)]; decide
      rw [h0, if_pos (he.refl j (by omega))]
      exact ⟨[], rfl⟩
theorem hit_rep (he : Eqv mu N) {i j : Nat} (hi : i < N) (hj : j < i) (hr : repB mu j = true) : hitB mu i (clsI mu i j) = mu i j := by
  obtain ⟨r, h⟩ := cls_head he (Nat.le_of_lt hi) hj hr
  unfold hitB
  rw [h]; rfl
theorem isl_new (he : Eqv mu N) {i : Nat} (hi : i < N) (h : repB mu i = true) : islI mu (i + 1) = islI mu i ++ [[i]] := by
  unfold islI
  rw [reps_succ, if_pos h, List.map_append]
  have h1 := repB_iff.1 h
  congr 1
  · refine List.map_congr_left (fun j hj => ?_)
    obtain ⟨hj1, hj2⟩ := mem_reps.1 hj
    rw [cls_succ, if_neg (fun e => by
      have := he.sym j i (by omega) hi e
      rw [h1 j hj1] at this; cases this), List.append_nil]
  · show [clsI mu (i + 1) i] = [[i]]
    have h0 : clsI mu i i = [] := by
      unfold clsI
      rw [List.filter_eq_nil_iff]
      intro k hk
      rw [h1 k (List.mem_range.1 hk)]; decide
    rw [cls_succ, h0, if_pos (he.refl i hi)]; rfl
theorem at_none {i : Nat} : ∀ (L : List (List Nat)) (k : Nat), (∀ l ∈ L, hitB mu i l = false) → atF mu i L k = -1
  | [], _, _ => rfl
  | l :: r, k, h => by
    unfold atF
    rw [if_neg (by rw [h l List.mem_cons_self]; decide)]
    exact at_none r (k + 1) (fun x hx => h x (List.mem_cons_of_mem _ hx))
theorem isl_miss (he : Eqv mu N) {i : Nat} (hi : i < N) (h : repB mu i = true) : atF mu i (islI mu i) 0 = -1 := by
  refine at_none _ _ (fun l hl => ?_)
  unfold islI at hl
  obtain ⟨j, hj, rfl⟩ := List.mem_map.1 hl
  obtain ⟨hj1, hj2⟩ := mem_reps.1 hj
  rw [hit_rep he hi hj1 hj2]
  exact repB_iff.1 h j hj1
theorem least_rep (he : Eqv mu N) {i : Nat} (hi : i < N) : ∀ k, k < i → mu i k = true → ∃ j, j < i ∧ repB mu j = true ∧ mu i j = true := by
  intro k
  induction k using Nat.strongRecOn with
  | _ k ih =>
    intro hk hm
    by_cases h : repB mu k = true
    · exact ⟨k, hk, h, hm⟩
    · have : ¬ ∀ x, x < k → mu k x = false := fun hx => h (repB_iff.2 hx)
      have : ∃ x, x < k ∧ mu k x = true := by
        refine Classical.byContradiction fun hn => this (fun x hx => ?_)
        cases hv : mu k x with
        | false => rfl
        | true => exact absurd ⟨x, hx, hv⟩ hn
      obtain ⟨x, hx, hv⟩ := this
      exact ih x hx (by omega) (he.trans i k x hi (by omega) (by omega) hm hv)
theorem at_hit {i : Nat} : ∀ (R : List Nat) (f g : Nat → List Nat) (k : Nat), R.Nodup → (∃ j ∈ R, hitB mu i (f j) = true) → (∀ j ∈ R, ∀ j' ∈ R, hitB mu i (f j) = true → hitB mu i (f j') = true → j = j') →
    (∀ j ∈ R, g j = f j ++ (if hitB mu i (f j) = true then [i] else [])) →
    ∃ a, a < R.length ∧ atF mu i (R.map f) k = ((k + a : Nat) : Int) ∧ R.map g = (R.map f).set a (nth (R.map f) a ++ [i])
  | [], f, g, k, _, ⟨j, hj, _⟩, _, _ => by cases hj
  | x :: R, f, g, k, hn, hex, hu, hg => by
    have hn' := List.nodup_cons.1 hn
    by_cases hx : hitB mu i (f x) = true
    · refine ⟨0, by simp, by simp [atF, hx], ?_⟩
      have h1 : R.map g = R.map f := List.map_congr_left (fun j hj => by
        rw [hg j (List.mem_cons_of_mem _ hj), if_neg (fun e => by
          have := hu x List.mem_cons_self j (List.mem_cons_of_mem _ hj) hx e
          subst this; exact hn'.1 hj), List.append_nil])
      simp only [List.map_cons, List.set_cons_zero, h1]
      rw [hg x List.mem_cons_self, if_pos hx]
      rfl
    · obtain ⟨j, hj, hjh⟩ := hex
      have hjR : j ∈ R := by
        rcases List.mem_cons.1 hj with h | h
        · subst h; exact absurd hjh hx
        · exact h
      obtain ⟨a, h1, h2, h3⟩ := at_hit R f g (k + 1) hn'.2 ⟨j, hjR, hjh⟩ (fun a ha b hb => hu a (List.mem_cons_of_mem _ ha) b (List.mem_cons_of_mem _ hb)) (fun b hb => hg b (List.mem_cons_of_mem _ hb))
      refine ⟨a + 1, by simpa using h1, ?_, ?_⟩
      · simp only [List.map_cons, atF]
        rw [if_neg hx, h2]
        congr 1; omega
      · simp only [List.map_cons, List.set_cons_succ, h3]
        rw [hg x List.mem_cons_self, if_neg hx, List.append_nil]
        rfl
theorem isl_old (he : Eqv mu N) {i : Nat} (hi : i < N) (h : ¬ repB mu i = true) : ∃ a, a < (islI mu i).length ∧ atF mu i (islI mu i) 0 = ((a : Nat) : Int) ∧ islI mu (i + 1) = (islI mu i).set a (nth (islI mu i) a ++ [i]) := by
  have hx : ∃ k, k < i ∧ mu i k = true := by
    refine Classical.byContradiction fun hn => h (repB_iff.2 fun k hk => ?_)
    cases hv : mu i k with
    | false => rfl
    | true => exact absurd ⟨k, hk, hv⟩ hn
  obtain ⟨k, hk, hm⟩ := hx
  obtain ⟨j, hj, hr, hv⟩ := least_rep he hi k hk hm
  have key : ∀ j, j ∈ repsI mu i → hitB mu i (clsI mu i j) = mu i j := fun j hj => by
    obtain ⟨h1, h2⟩ := mem_reps.1 hj
    exact hit_rep he hi h1 h2
  obtain ⟨a, h1, h2, h3⟩ := at_hit (mu := mu) (i := i) (repsI mu i) (clsI mu i) (clsI mu (i + 1)) 0 (List.Nodup.sublist List.filter_sublist List.nodup_range) ⟨j, mem_reps.2 ⟨hj, hr⟩, by rw [key j (mem_reps.2 ⟨hj, hr⟩)]; exact hv⟩
    (fun a ha b hb h1 h2 => by
      rw [key a ha] at h1
      rw [key b hb] at h2
      obtain ⟨a1, a2⟩ := mem_reps.1 ha
      obtain ⟨b1, b2⟩ := mem_reps.1 hb
      have hab := he.trans a i b (by omega) hi (by omega) (he.sym i a hi (by omega) h1) h2
      rcases Nat.lt_trichotomy a b with e | e | e
      · have := repB_iff.1 b2 a e
        rw [he.sym a b (by omega) (by omega) hab] at this; cases this
      · exact e
      · have := repB_iff.1 a2 b e
        rw [hab] at this; cases this)
    (fun b hb => by
      rw [cls_succ, key b hb]
      obtain ⟨b1, b2⟩ := mem_reps.1 hb
      have : mu b i = mu i b := by
        rw [Bool.eq_iff_iff]
        exact ⟨he.sym b i (by omega) hi, he.sym i b hi (by omega)⟩
      rw [this])
  refine ⟨a, by unfold islI; rw [List.length_map]; exact h1, by unfold islI; rw [h2, Nat.zero_add], ?_⟩
  unfold islI
  rw [reps_succ, if_neg h, List.append_nil, h3]
/-- every class begins with a member below i -/
theorem isl_heads (he : Eqv mu N) {i : Nat} (hi : i ≤ N) {k : Nat} (hk : k < (islI mu i).length) : ∃ j r, j < i ∧ nth (islI mu i) k = j :: r := by
  have hk' : k < (repsI mu i).length := by unfold islI at hk; rwa [List.length_map] at hk
  have e : nth (islI mu i) k = clsI mu i (nth (repsI mu i) k) := by
    unfold islI
    simp [nth, List.getD_eq_getElem?_getD, List.getElem?_eq_getElem hk']
  have hm : nth (repsI mu i) k ∈ repsI mu i := by
    simp [nth, List.getD_eq_getElem?_getD, List.getElem?_eq_getElem hk']
  obtain ⟨h1, h2⟩ := mem_reps.1 hm
  obtain ⟨r, h3⟩ := cls_head he hi h1 h2
  exact ⟨_, r, h1, e.trans h3⟩
theorem isl_len (i : Nat) : (islI mu i).length ≤ i := by
  unfold islI repsI
  rw [List.length_map]
  have := List.length_filter_le (repB mu) (List.range i)
  rw [List.length_range] at this
  exact this
theorem cls_len (i j : Nat) : (clsI mu i j).length ≤ i := by
  unfold clsI
  have := List.length_filter_le (mu j) (List.range i)
  rw [List.length_range] at this
  exact this
/-- what the reference collects -/
def islR (mu : Nat → Nat → Bool) (N : Nat) : Nat → List (List Nat)
  | 0 => []
  | i + 1 => islR mu N i ++ (if nth (clsI mu N i) 0 = i then [clsI mu N i] else [])
theorem head_rep (he : Eqv mu N) {i : Nat} (hi : i < N) : nth (clsI mu N i) 0 = i ↔ repB mu i = true := by
  constructor
  · intro h
    refine repB_iff.2 fun k hk => ?_
    cases hv : mu i k with
    | false => rfl
    | true =>
      -- then the first member is at most k
      have : ∀ M, k < M → M ≤ N → nth (clsI mu M i) 0 ≤ k := by
        intro M
        induction M with
        | zero => intro h; omega
        | succ M ih =>
          intro h1 h2
          rw [cls_succ]
          by_cases e : k < M
          · have h3 := ih e (by omega)
            have h4 : clsI mu M i ≠ [] := by
              intro hn
              have : k ∈ clsI mu M i := by unfold clsI; rw [List.mem_filter, List.mem_range]; exact ⟨e, hv⟩
              rw [hn] at this; cases this
            obtain ⟨x, r, hx⟩ := List.exists_cons_of_ne_nil h4
            rw [hx] at h3 ⊢
            exact h3
          · have e : k = M := by omega
            subst e
            rw [if_pos hv]
            cases hc : clsI mu k i with
            | nil => exact Nat.le_refl _
            | cons x r =>
              have hx : x ∈ clsI mu k i := by rw [hc]; exact List.mem_cons_self
              unfold clsI at hx
              rw [List.mem_filter, List.mem_range] at hx
              show x ≤ k
              omega
      have := this N (by omega) (Nat.le_refl _)
      omega
  · intro h
    obtain ⟨r, hr⟩ := cls_head he (Nat.le_refl N) hi h
    rw [hr]; rfl
theorem islR_eq (he : Eqv mu N) : ∀ i, i ≤ N → islR mu N i = (repsI mu i).map (clsI mu N)
  | 0, _ => rfl
  | i + 1, hi => by
    unfold islR
    rw [islR_eq he i (by omega), reps_succ, List.map_append]
    congr 1
    by_cases h : repB mu i = true
    · rw [if_pos h, if_pos ((head_rep he (by omega)).2 h)]; rfl
    · rw [if_neg h, if_neg (fun e => h ((head_rep he (by omega)).1 e))]; rfl
theorem islR_isl (he : Eqv mu N) : islR mu N N = islI mu N := islR_eq he N (Nat.le_refl N)
end
end Go.Proofs.Ytmkahgnfoefnjaa
