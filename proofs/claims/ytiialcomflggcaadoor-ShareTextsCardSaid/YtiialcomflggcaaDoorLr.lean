/- A logic of abstract states for this claim (part Lr): lemmas alone. -/
import Derived.Test.YtiialcomflggcaaDoorLp
import Derived.Shelf.Strconv.Itoa3
import Derived.Shelf.Strings.Split
import Derived.Shelf.Strings.Cut
import Derived.Shelf.Strings.Count
import Derived.Shelf.Strings.Prefix
import Derived.Shelf.Slices.Turned
import Derived.Shelf.Strconv.AtoiAll
import Derived.Test.YtiialcomflggcaaDoorLf
set_option linter.unusedSimpArgs false
set_option linter.unusedVariables false

namespace Go.Fi
open Go Go.RowKit Go.Shelf Go.Proofs Go.Sort
variable [LaidW]

omit [LaidW] in
theorem vs2 {vs : Array Value} (h : 2 = vs.size) : ∃ a b, vs = #[a, b] := by
  obtain ⟨l⟩ := vs
  match l, h with
  | [a, b], _ => exact ⟨a, b, rfl⟩
def pieces (s sep : ByteArray) : List ByteArray := Lib.splitB sep 0 (Lib.countB s sep) s
/-- strings.Split -/
theorem split_real {P : Program} {ρ : Ren} (L : Lays.n146 P ρ) (ent : Enterable P (ρ.f 146)) (hi9 : (P.info? (ρ.t 9)).map (fun i => (i.zero, i.size, i.bytes)) = some (some (.string ByteArray.empty), 1, 16)) (hm : ∀ w, LaidW.ok w → ∃ m, w.cell? ⟨(ρ.g 1), 0, none⟩ = some (.int .i64 m))
    (s sep : ByteArray) (hs : s.size < 4294967281) (h1 : 1 ≤ sep.size) : RealCall P (ρ.f 146) [.str s, .str sep] (.sl (pieces s sep).length (strP (pieces s sep))) true := by
  refine ⟨ent, fun G w vs hok hl hrep => ?_⟩
  obtain ⟨v0, v1, rfl⟩ := vs2 hl
  have r0 := hrep 0 _ v0 rfl rfl
  have r1 := hrep 1 _ v1 rfl rfl
  cases r0
  cases r1
  obtain ⟨m, hm⟩ := hm w hok
  refine (Any.strings_Split L hi9 s sep m w hs hm h1).mono ?_
  rintro e w' ⟨rfl, rfl⟩
  have hlen : (pieces s sep).length = Lib.countB s sep + 1 := by
    unfold pieces; rw [Lib.splitB_all sep h1 0 _ s rfl]
  refine ⟨_, rfl, (Below.refl _ _).alloc (Nat.le_refl _) _, ?_⟩
  rw [hlen]
  refine .sl (fun j => ((pieces s sep).map Value.string).getD j undef) (Nat.le_refl _) (fun j hj => ?_) (fun _ => ⟨fun h => absurd h (Nat.lt_irrefl _), fun _ => Nat.le_refl _⟩) (fun j p hp => ?_)
  · have hj' : j < (pieces s sep).length := by simpa [strP] using hj
    rw [Nat.zero_add]
    simp only [World.cell?, heap_push_new w _]
    show ((Lib.splitB sep 0 (Lib.countB s sep) s).map Value.string).toArray[j]? = _
    rw [List.getElem?_toArray, List.getD_eq_getElem?_getD]
    have : j < ((pieces s sep).map Value.string).length := by simpa using hj'
    show ((pieces s sep).map Value.string)[j]? = _
    rw [List.getElem?_eq_getElem this]; rfl
  · obtain ⟨x, hx, rfl⟩ := getElem?_map_some hp
    simp only [List.getD_eq_getElem?_getD, List.getElem?_map, hx]
    exact .str _
end Go.Fi

namespace Go.Fi
open Go Go.RowKit
variable [LaidW]
variable {fk : Fk}

omit [LaidW] in
@[simp] theorem flat_nili : flat .nili = true := rfl
omit [LaidW] in
@[simp] theorem flat_ifc (t : TypeId) (p : PV) : flat (.ifc t p) = false := rfl
omit [LaidW] in
@[simp] theorem flat_tup (l : List PV) : flat (.tup l) = false := rfl

end Go.Fi

