/- A logic of abstract states for this claim (part Lr): lemmas alone. -/
import Derived.Test.YtlcimflkjfbaoaaGreatLp
import Derived.Shelf.Strconv.Itoa3
import Derived.Shelf.Strings.Split
import Derived.Shelf.Strings.Cut
import Derived.Shelf.Strings.Count
import Derived.Shelf.Strings.Prefix
import Derived.Shelf.Slices.Turned
import Derived.Shelf.Strconv.AtoiAll
import Derived.Test.YtlcimflkjfbaoaaGreatLf
set_option linter.unusedSimpArgs false
set_option linter.unusedVariables false

namespace Go.Fi
open Go Go.RowKit Go.Shelf Go.Proofs Go.Sort
variable [LaidW]

omit [LaidW] in
theorem vs2 {vs : Array Value} (h : 2 = vs.size) : ∃ a b, vs = #[a, b] := by
  obtain ⟨l⟩ := vs
  match l, h with
  | [a, b], _ => exact ⟨a, b, rfl⟩
def dec (n : Int) : ByteArray := ⟨(Lib.itoa n).toArray⟩
def pieces (s sep : ByteArray) : List ByteArray := Lib.splitB sep 0 (Lib.countB s sep) s
/-- slices.Contains at []string -/
theorem cont_real {P : Program} {ρ : Ren} (L : Lays.n110 P ρ) (ent : Enterable P (ρ.f 110)) (xs : List ByteArray) (x : ByteArray) (hl : xs.length ≤ 1000000000) :
    RealCall P (ρ.f 110) [.sl xs.length (strP xs), .str x] (.bool (Lib.containsS xs x)) true := by
  refine ⟨ent, fun G w vs hok hlen hrep => ?_⟩
  obtain ⟨v0, v1, rfl⟩ := vs2 hlen
  have h0 := hrep 0 _ v0 rfl rfl
  have r1 := hrep 1 _ v1 rfl rfl
  cases r1
  have fin : ∀ (e : Ending) (w' : World), (e = .returned (.bool (Lib.containsS xs x)) ∧ w' = w) → ∃ v, e = .returned v ∧ Below w.heap.size w w' ∧ Rep (fun b => (b < w.heap.size → G b) ∧ (true = true → w.heap.size ≤ b)) w' (.bool (Lib.containsS xs x)) v := by
    rintro e w' ⟨rfl, rfl⟩
    exact ⟨_, rfl, Below.refl _ _, .bool _⟩
  have none_ : ∀ (a : Option Addr) (c : Nat), xs = [] → Calls P (ρ.f 110) #[.slice a 0 c, .string x] w fun e w' => ∃ v, e = .returned v ∧ Below w.heap.size w w' ∧ Rep (fun b => (b < w.heap.size → G b) ∧ (true = true → w.heap.size ≤ b)) w' (.bool (Lib.containsS xs x)) v := by
    intro a c hx
    subst hx
    refine (Any.slices_Contains_string_empty L a c x w).mono ?_
    rintro e w' ⟨rfl, rfl⟩
    exact fin _ _ ⟨rfl, rfl⟩
  generalize hn : xs.length = n at h0
  generalize hc : strP xs = cs at h0
  cases h0 with
  | slnil => exact none_ none 0 (List.eq_nil_of_length_eq_zero hn)
  | slz hle =>
    have : xs = [] := by unfold strP at hc; simpa using hc
    subst this
    have : n = 0 := hn.symm
    subst this
    exact none_ _ _ rfl
  | @sl n cap b off cells vals hle hcell hg hr =>
    subst hc
    subst hn
    have hlen2 : (strP xs).length = xs.length := by simp [strP]
    have hv : ∀ (j : Nat) y, xs[j]? = some y → vals j = .string y := by
      intro j y hj
      have := hr j (.str y) (by simp [strP, hj])
      generalize vals j = v at this
      cases this
      rfl
    refine (Any.slices_Contains_string L b off xs.length cap xs x w (Nat.le_refl _) (by omega) (fun j hj => ?_)).mono ?_
    · rw [hcell j (by omega), hv j (xs.getD j ByteArray.empty) (by rw [List.getD_eq_getElem?_getD, List.getElem?_eq_getElem hj]; rfl)]
    · rw [List.take_length]; exact fin
end Go.Fi

namespace Go.Fi
open Go Go.RowKit
variable [LaidW]
variable {fk : Fk}

omit [LaidW] in
@[simp] theorem flat_nili : flat .nili = true := rfl
omit [LaidW] in
@[simp] theorem flat_ifc (t : TypeId) (p : PV) : flat (.ifc t p) = false := rfl
omit [LaidW] in
@[simp] theorem flat_tup (l : List PV) : flat (.tup l) = false := rfl

end Go.Fi

