/- Contracts of functions for this claim: lemmas alone. -/
import Derived.Test.YtchpdgojiibjcaaP35
set_option linter.unusedSimpArgs false
set_option linter.unusedVariables false
namespace Go.Proofs.Ytchpdgojiibjcaa
open Go Go.Fi
set_option maxRecDepth 20000

/-! ### a ride that is too long -/
def longB (m : Grid) (p : Plan) (ts : List Int) (j : Nat) : Bool := decide ((rideS m p ts j).2 < (rideS m p ts j).1)
def tooL (m : Grid) (p : Plan) (ts : List Int) : Bool := (List.range p.riders.length).any (longB m p ts)
theorem tooL_true {m : Grid} {p : Plan} {ts : List Int} {k : Nat} (h : k < p.riders.length) (e : longB m p ts k = true) : tooL m p ts = true := by
  unfold tooL
  rw [List.any_eq_true]
  exact ⟨k, List.mem_range.2 h, e⟩
theorem tooL_false {m : Grid} {p : Plan} {ts : List Int} (h : ∀ k, k < p.riders.length → longB m p ts k = false) : tooL m p ts = false := by
  unfold tooL
  rw [List.any_eq_false]
  intro x hx
  rw [h x (List.mem_range.1 hx)]; decide
def toK (p : Plan) (ts : List Int) (j i : Nat) : Int := if elemB (p.stops.take i) ⟨(j : Int), true⟩ = true then timeAt p ts ⟨(j : Int), true⟩ else 0
def fromK (p : Plan) (ts : List Int) (j i : Nat) : Int := if elemB (p.stops.take i) ⟨(j : Int), false⟩ = true then timeAt p ts ⟨(j : Int), false⟩ else p.car.time - (nth p.riders j).ridden
theorem stop_once {m : Grid} {p : Plan} (po : PlanOk m p) {i : Nat} (h : i < p.stops.length) {s : Stop} (e : nth p.stops i = s) : stopAt p.stops s = (i : Int) := by
  have h1 := stopAt_first h e
  have he : elemB p.stops s = true := elemB_iff.2 (mem_of_nth h e)
  have h2 := stopAt_nth he
  obtain ⟨a, ha, hal⟩ := stopAt_bd he
  rw [ha] at h1 h2 ⊢
  rw [Int.toNat_natCast] at h2
  rcases Nat.lt_or_ge a i with hlt | hge
  · have h3 := (stopE_ok.1 (po.stops i h)).2.1
    rw [e] at h3
    have h4 : elemB (p.stops.take i) s = true := elemB_iff.2 (mem_of_nth (k := a) (by rw [take_len _ _ (by omega)]; omega) (by rw [nth_take _ _ _ hlt]; exact h2))
    rw [h4] at h3; cases h3
  · omega
theorem stop_is {s : Stop} {r : Int} {o : Bool} (h1 : s.rider = r) (h2 : s.out = o) : s = ⟨r, o⟩ := by cases s; cases h1; cases h2; rfl
section
variable {m : Grid} {p : Plan} {ts : List Int} {i j : Nat}
@[simp] theorem toK_zero : toK p ts j 0 = 0 := rfl
@[simp] theorem fromK_zero : fromK p ts j 0 = p.car.time - (nth p.riders j).ridden := rfl
theorem toK_other (h : i < p.stops.length) (e : (nth p.stops i).rider ≠ (j : Int)) : toK p ts j (i + 1) = toK p ts j i ∧ fromK p ts j (i + 1) = fromK p ts j i := by
  unfold toK fromK
  rw [elemB_succ h, elemB_succ h, stopEq_ne (a := ⟨(j : Int), true⟩) (by intro e'; rw [← e'] at e; exact e rfl), stopEq_ne (a := ⟨(j : Int), false⟩) (by intro e'; rw [← e'] at e; exact e rfl), Bool.or_false, Bool.or_false]
  exact ⟨rfl, rfl⟩
theorem toK_out (po : PlanOk m p) (h : i < p.stops.length) (e : nth p.stops i = ⟨(j : Int), true⟩) : toK p ts j (i + 1) = nth ts i ∧ fromK p ts j (i + 1) = fromK p ts j i := by
  have hs := stop_once po h e
  unfold toK fromK
  rw [elemB_succ h, elemB_succ h, e, stopEq_self, Bool.or_true, if_pos rfl, stopEq_ne (a := ⟨(j : Int), false⟩) (by intro e'; cases e'), Bool.or_false]
  refine ⟨?_, rfl⟩
  unfold timeAt
  rw [hs, Int.toNat_natCast]
theorem toK_in (po : PlanOk m p) (h : i < p.stops.length) (e : nth p.stops i = ⟨(j : Int), false⟩) : toK p ts j (i + 1) = toK p ts j i ∧ fromK p ts j (i + 1) = nth ts i := by
  have hs := stop_once po h e
  unfold toK fromK
  rw [elemB_succ h, elemB_succ h, e, stopEq_self, Bool.or_true, if_pos rfl, stopEq_ne (a := ⟨(j : Int), true⟩) (by intro e'; cases e'), Bool.or_false]
  refine ⟨rfl, ?_⟩
  unfold timeAt
  rw [hs, Int.toNat_natCast]
theorem toK_end (po : PlanOk m p) (hj : j < p.riders.length) : toK p ts j p.stops.length = timeAt p ts ⟨(j : Int), true⟩ ∧ fromK p ts j p.stops.length = beginS p ts j := by
  unfold toK fromK beginS
  rw [List.take_length, (po.rides hj).out, if_pos rfl]
  refine ⟨rfl, ?_⟩
  cases ha : (nth p.riders j).aboard with
  | true =>
    rw [if_pos (rfl : true = true)]
    have : elemB p.stops ⟨(j : Int), false⟩ = false := by
      cases he : elemB p.stops ⟨(j : Int), false⟩ with
      | false => rfl
      | true =>
        obtain ⟨c, hc, hce⟩ := nth_of_mem (elemB_iff.1 he)
        have h2 := (stopE_ok.1 (po.stops c hc)).2.2.1
        rw [hce] at h2
        rcases h2 with h2 | h2
        · cases h2
        · have : (nth p.riders j).aboard = false := h2
          rw [ha] at this; cases this
    rw [this, if_neg (by decide)]
  | false =>
    have := (po.rides hj).ins.resolve_left (by rw [ha]; decide)
    rw [this, if_pos rfl]
    exact (if_neg (by decide)).symm
theorem toK_bd (hl : ts.length = p.stops.length) (ht : TimesIn ts) : 0 ≤ toK p ts j i ∧ toK p ts j i ≤ 2000000000 := by
  unfold toK
  split
  · rename_i h
    exact timeAt_bd hl ht (elemB_iff.2 (List.mem_of_mem_take (elemB_iff.1 h)))
  · omega
end
end Go.Proofs.Ytchpdgojiibjcaa
