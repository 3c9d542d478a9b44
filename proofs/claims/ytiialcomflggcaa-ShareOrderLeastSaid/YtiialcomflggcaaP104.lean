/- Contracts of functions for this claim: lemmas alone. -/
import Derived.Test.YtiialcomflggcaaP101
import Derived.Test.YtiialcomflggcaaP31
import Derived.Test.YtiialcomflggcaaP23
import Derived.Test.YtiialcomflggcaaLad
set_option linter.unusedSimpArgs false
set_option linter.unusedVariables false
namespace Go.Proofs.Ytiialcomflggcaa
open Go Go.Fi
set_option maxRecDepth 20000

/-! ### the best order, as the document finds it -/
def KS (m : Grid) (p : Plan) (q : List Stop) : Bool := keepsS m (withS p q)
def CS (m : Grid) (p : Plan) (q : List Stop) : Int := costP m (withS p q)
def ordCo : Option (List Stop × Int) → Int
  | none => 0
  | some (_, c) => c
def ordA (p : Plan) : Option (List Stop × Int) → List AV
  | none => [.w false false (.int .i64 0), .w false false (.int .i64 0), .w false false (.int .i64 0), .w true true (.sl 0 []), .w true true (.sl 0 [])]
  | some (q, _) => [.w false false (.int .i64 p.car.at_), .w false false (.int .i64 p.car.time), .w false false (.int .i64 p.car.seats), .w false false (.sl p.riders.length (cRiders p.riders)), .w false false (.sl q.length (cStops q))]
@[simp] theorem ordA_none (p : Plan) : ordA p none = [.w false false (.int .i64 0), .w false false (.int .i64 0), .w false false (.int .i64 0), .w true true (.sl 0 []), .w true true (.sl 0 [])] := rfl
@[simp] theorem ordA_some (p : Plan) (q : List Stop) (c : Int) : ordA p (some (q, c)) = [.w false false (.int .i64 p.car.at_), .w false false (.int .i64 p.car.time), .w false false (.int .i64 p.car.seats), .w false false (.sl p.riders.length (cRiders p.riders)), .w false false (.sl q.length (cStops q))] := rfl
@[simp] theorem ordA_lt (p : Plan) (b : Option (List Stop × Int)) (n : Nat) : AV.lt.ltL n (ordA p b) = true := by rcases b with _ | ⟨q, c⟩ <;> simp [AV.lt.ltL, AV.lt]
@[simp] theorem ordA_len (p : Plan) (b : Option (List Stop × Int)) : (ordA p b).length = 5 := by rcases b with _ | ⟨q, c⟩ <;> rfl
@[simp] theorem ordCo_none : ordCo none = 0 := rfl
@[simp] theorem ordCo_some (q : List Stop) (c : Int) : ordCo (some (q, c)) = c := rfl
end Go.Proofs.Ytiialcomflggcaa

