/- A logic of abstract states for this claim (part Lp): lemmas alone. -/
import Derived.Test.YtfpamehamllndaaGreatDoorLf
import Derived.Shelf.Strings.OnBuilder
set_option linter.unusedSimpArgs false
set_option linter.unusedVariables false

namespace Go.Fi
open Go Go.RowKit Go.Shelf Go.Proofs
variable [LaidW]

def joinB (xs : List ByteArray) (sep : ByteArray) : ByteArray := ⟨(Lib.join (xs.map (·.data.toList)) sep.data.toList).toArray⟩
def strP (xs : List ByteArray) : List PV := xs.map .str
/-- strings.Join -/
theorem join_real {P : Program} {ρ : Ren} (L : Lays.n156 P ρ) (X : Builder.Extra P ρ) (ent : Enterable P (ρ.f 156)) (xs : List ByteArray) (sep : ByteArray) (hN : xs.length ≤ 1000000000)
    (hlen : (Lib.join (xs.map (·.data.toList)) sep.data.toList).length ≤ 140737488355328) : RealCall P (ρ.f 156) [.sl xs.length (strP xs), .str sep] (.str (joinB xs sep)) true := by
  refine ⟨ent, fun G w vs _ hl hrep => ?_⟩
  obtain ⟨v0, v1, rfl⟩ : ∃ v0 v1, vs = #[v0, v1] := by
    obtain ⟨l⟩ := vs
    match l, hl with
    | [a, b], _ => exact ⟨a, b, rfl⟩
  have h0 := hrep 0 _ v0 rfl rfl
  have h1 := hrep 1 _ v1 rfl rfl
  cases h1
  have fin : ∀ (e : Ending) (w' : World), (e = .returned (.string (joinB xs sep)) ∧ Below w.heap.size w w') → ∃ v, e = .returned v ∧ Below w.heap.size w w' ∧ Rep (fun b => (b < w.heap.size → G b) ∧ (true = true → w.heap.size ≤ b)) w' (.str (joinB xs sep)) v := by
    rintro e w' ⟨rfl, hb⟩
    exact ⟨_, rfl, hb, .str _⟩
  have none_ : ∀ (a : Option Addr) (c : Nat), xs = [] → Calls P (ρ.f 156) #[.slice a 0 c, .string sep] w fun e w' => ∃ v, e = .returned v ∧ Below w.heap.size w w' ∧ Rep (fun b => (b < w.heap.size → G b) ∧ (true = true → w.heap.size ≤ b)) w' (.str (joinB xs sep)) v := by
    intro a c hx
    subst hx
    refine (Any.strings_Join_none L X a c sep w).mono ?_
    rintro e w' ⟨rfl, rfl⟩
    exact fin _ _ ⟨rfl, Below.refl _ _⟩
  generalize hn : xs.length = n at h0
  generalize hc : strP xs = cs at h0
  cases h0 with
  | slnil => exact none_ none 0 (List.eq_nil_of_length_eq_zero hn)
  | slz hle =>
    have : xs = [] := by unfold strP at hc; simpa using hc
    subst this
    have : n = 0 := hn.symm
    subst this
    exact none_ _ _ rfl
  | @sl n cap b off cells vals hle hcell hg hr =>
    subst hc
    subst hn
    by_cases hx : xs = []
    · subst hx; exact none_ _ _ rfl
    · have hlen2 : (strP xs).length = xs.length := by simp [strP]
      have hpos : 0 < xs.length := List.length_pos_iff.2 hx
      have hv : ∀ (j : Nat) x, xs[j]? = some x → vals j = .string x := by
        intro j x hj
        have := hr j (.str x) (by simp [strP, hj])
        generalize vals j = v at this
        cases this
        rfl
      refine (Any.strings_Join L X b off cap xs sep w (fun j x hj => ?_) (hcell.lt (by omega)) (by omega) hle hlen).mono fin
      have hjl : j < xs.length := (List.getElem?_eq_some_iff.1 hj).1
      rw [hcell j (by omega), hv j x hj]
end Go.Fi

