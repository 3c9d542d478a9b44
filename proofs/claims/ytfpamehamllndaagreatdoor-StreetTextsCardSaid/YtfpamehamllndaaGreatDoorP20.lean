/- Contracts of functions for this claim: lemmas alone. -/
import Derived.Test.YtfpamehamllndaaGreatDoorP19
import Derived.Test.YtfpamehamllndaaGreatDoorLh
import Derived.Shelf.Lays
set_option linter.unusedSimpArgs false
set_option linter.unusedVariables false
namespace Go.Proofs.YtfpamehamllndaaGreatDoor
open Go Go.Fi
/-- where the library's own text of slices.Reverse lies in the program -/
def laysRevRen : Go.Shelf.Ren := ⟨fun | 112 => 70 | n => n, fun | 28 => 48 | n => n, fun n => n⟩
theorem laysRev : Lays.n112 Tryz.prog laysRevRen where
  mixed := by kernel_rfl
  f112 := Tryz.func70.trans (congrArg some (by kernel_rfl))
  t0 := Tryz.underlying0
  a0 := Tryz.isAgg0
  z0 := Tryz.sizeOf0
  v0 := Tryz.zeroValue0
  t3 := Tryz.underlying3
  a3 := Tryz.isAgg3
  z3 := Tryz.sizeOf3
  v3 := Tryz.zeroValue3
  t4 := Tryz.underlying4
  a4 := Tryz.isAgg4
  z4 := Tryz.sizeOf4
  v4 := Tryz.zeroValue4
  t28 := Tryz.underlying48
  a28 := Tryz.isAgg48
  z28 := Tryz.sizeOf48
  v28 := Tryz.zeroValue48

theorem revC : RevC Tryz.prog 70 :=
  ⟨⟨Tryz.f70, Tryz.func70, by kernel_rfl, by kernel_rfl⟩, fun b off n c zs w h1 h2 h3 h4 => Any.slices_Reverse_int_cells laysRev b off n c zs w h1 h2 h3 h4, fun a c w => Any.slices_Reverse_int_empty laysRev a c w⟩

/-- the roads by which a place has its number, from the end on -/
def backF (n : Net) (b : List Int) : Nat → Nat → Option (List Int)
  | 0, _ => none
  | m + 1, to => if nth b to = -1 then some [] else (backF n b m (nth n.roads (nth b to).toNat).frm.toNat).map (nth b to :: ·)
def BackJ (n : Net) (b : List Int) (m to : Nat) (o R : List Int) : Prop := (backF n b m to).map (o ++ ·) = some R
@[simp] theorem iA_snoc (l : List Int) (v : Int) : iA l ++ [.w false false (.int .i64 v)] = iA (l ++ [v]) := by simp [iA, ints]
@[simp] theorem iA_nil : iA [] = [] := rfl
set_option maxHeartbeats 4000000 in
theorem way_c (n : Net) (h : NetOk n) (s : GS) (hs : Inv n s) (to : Nat) (ht : to < n.places.length) (m : Nat) (hm : m < 100000) (R : List Int) (hR : backF n s.b m to = some R) :
    RealCall Tryz.prog 44 [aNet n, treeP n s, .int .i64 to] (.sl R.length (ints R.reverse)) true := by
  have hb := hs.by_
  have hlb := hs.lb
  have kk := keep (And.intro h hb)
  have kR := keep hR
  clear hR hs
  unfold aNet cNet treeP
  refine realcall_intro Tryz.func44 (by kernel_rfl) rfl (Nat.le_of_ble_eq_true (by kernel_rfl)) ?_
  simp only [Tryz.results44, Tryz.ntmps44]
  repeat' (first | (with_reducible first | refine awp_seq ?_ | refine awp_region ?_ | intro _) | (simp [*, ht, hlb]))
  all_goals try omega
  refine awp_for4 3 (fun (x : Nat × Nat × List Int) => x.2.1 < n.places.length ∧ x.2.2.length + x.1 ≤ m ∧ BackJ n s.b x.1 x.2.1 x.2.2 R) [3, 4] (fun (x : Nat × Nat × List Int) => [(7, .msl 2 x.2.2.length 1 0 x.2.2.length), (8, .w false false (.int .i64 (nth s.b x.2.1)))]) [1, 0] (fun (x : Nat × Nat × List Int) => [(2, iA x.2.2)]) (fun (x : Nat × Nat × List Int) => x.1) (fun (_u : Unit) => R.length ≤ m) [] (fun (_u : Unit) => [(7, .msl 2 R.length 1 0 R.length)]) [] (fun (_u : Unit) => [(2, iA R)]) ((m, to, ([] : List Int))) ⟨ht, Nat.le_of_eq (Nat.zero_add m), by unfold BackJ; dsimp only; rw [kR]; rfl⟩ (le_gen [] (by simp) (by simp)) (fun x hk => ?_) (fun _u hf => ?_)
  · obtain ⟨m', to', o⟩ := x
    obtain ⟨ht', hlen, hj⟩ := hk
    unfold BackJ at hj
    dsimp only at ht' hlen hj ⊢
    have hb' := kk.2 to' ht'
    cases m' with
    | zero => cases hj
    | succ m' =>
      by_cases hn1 : nth s.b to' = -1
      · have e : backF n s.b (m' + 1) to' = some [] := if_pos hn1
        rw [e] at hj
        have hj : some (o ++ []) = some R := hj
        rw [List.append_nil] at hj
        injection hj with hj
        subst hj
        repeat' (first | (with_reducible first | refine awp_seq ?_ | refine awp_exit ?_ | refine awp_region ?_ | refine awp_condM ?_ | intro _) | (simp [*]))
        (refine finW_intro () ?_ ?_; (· omega); (refine le_of ?_ ?_ <;> first | trivial | (simp [*]; done)))
      · have e : backF n s.b (m' + 1) to' = (backF n s.b m' (nth n.roads (nth s.b to').toNat).frm.toNat).map (nth s.b to' :: ·) := if_neg hn1
        rw [e] at hj
        have hr := kk.1.road (nth s.b to').toNat (by omega)
        have f1 := hr.frm
        have q1 : (nth s.b to').toNat < n.roads.length := by omega
        have q2 : (nth n.roads (nth s.b to').toNat).frm.toNat < n.places.length := by omega
        have kj : BackJ n s.b m' (nth n.roads (nth s.b to').toNat).frm.toNat (o ++ [nth s.b to']) R := by
          rw [BackJ, ← hj, Option.map_map]
          congr 1
          funext z; simp
        clear hj e hr
        repeat' (first | (with_reducible first | refine awp_seq ?_ | refine awp_blockR ?_ | refine awp_skip ?_ | refine awp_region ?_ | refine awp_regionS (id := 5) [0, 1, 2, 4, 5, 6, 7, 8, 9, 10] [3, 11, 12] [[], [], [], [.slot 7], [.slot 7], [.slot 7], [.slot 7], [.slot 7], [.slot 7], [.slot 7]] [[.slot 7], [], []] mixed (by decide +kernel) ?_ | refine awp_condM ?_ | refine And.intro ?_ ?_ | intro _) | (simp [*, q1, q2, hlb]))
        all_goals first
          | exact inI64 (by omega) (by omega)
          | omega
          | (refine loopK_normal _ _ _ _ _ (m', (nth n.roads (nth s.b to').toNat).frm.toNat, o ++ [nth s.b to']) _ ?_ (by first | omega | (dsimp only; omega) | (simp; omega)) ?_; (· exact ⟨q2, by simp; omega, kj⟩); (refine le_of ?_ ?_ <;> first | trivial | (simp [*]; done)))
          | skip
  · refine awp_seq ?_
    refine awp_rev (id := 2) (l := R) revC (by simp) (by simp; rfl) (by omega) (by decide) (by decide) ?_
    have hz : ∀ l, iC l = iA l := fun _ => rfl
    rw [hz]
    repeat' (first | (with_reducible first | refine awp_seq ?_ | refine awp_ret ?_ | refine awp_region ?_ | intro _) | (simp [*]))
end Go.Proofs.YtfpamehamllndaaGreatDoor

