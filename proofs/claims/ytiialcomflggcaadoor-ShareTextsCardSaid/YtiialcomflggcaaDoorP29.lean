/- Contracts of functions for this claim: lemmas alone. -/
import Derived.Test.YtiialcomflggcaaDoorP26
import Derived.Test.YtiialcomflggcaaDoorLp
set_option linter.unusedSimpArgs false
set_option linter.unusedVariables false
namespace Go.Proofs.YtiialcomflggcaaDoor
open Go Go.Fi Go.Shelf
set_option maxRecDepth 20000

def joinRen : Go.Shelf.Ren := ⟨fun | 156 => 24 | 165 => 50 | 166 => 51 | 169 => 52 | 240 => 66 | 241 => 67 | 276 => 78 | 277 => 79 | n => n, fun | 31 => 61 | 37 => 97 | 70 => 96 | 72 => 99 | 75 => 102 | 76 => 103 | 80 => 105 | 127 => 126 | 164 => 139 | n => n, fun n => n⟩
theorem joinLays_n156 : Lays.n156 Tryd.prog joinRen where
  mixed := by kernel_rfl
  f156 := Tryd.func24.trans (congrArg some (by kernel_rfl))
  f165 := Tryd.func50.trans (congrArg some (by kernel_rfl))
  f166 := Tryd.func51.trans (congrArg some (by kernel_rfl))
  f169 := Tryd.func52.trans (congrArg some (by kernel_rfl))
  f240 := Tryd.func66.trans (congrArg some (by kernel_rfl))
  f241 := Tryd.func67.trans (congrArg some (by kernel_rfl))
  f276 := Tryd.func78.trans (congrArg some (by kernel_rfl))
  f277 := Tryd.func79.trans (congrArg some (by kernel_rfl))
  t0 := Tryd.underlying0
  a0 := Tryd.isAgg0
  z0 := Tryd.sizeOf0
  v0 := Tryd.zeroValue0
  t3 := Tryd.underlying3
  a3 := Tryd.isAgg3
  z3 := Tryd.sizeOf3
  v3 := Tryd.zeroValue3
  t4 := Tryd.underlying4
  a4 := Tryd.isAgg4
  z4 := Tryd.sizeOf4
  v4 := Tryd.zeroValue4
  t9 := Tryd.underlying9
  a9 := Tryd.isAgg9
  z9 := Tryd.sizeOf9
  v9 := Tryd.zeroValue9
  t20 := Tryd.underlying20
  a20 := Tryd.isAgg20
  z20 := Tryd.sizeOf20
  v20 := Tryd.zeroValue20
  t31 := Tryd.underlying61
  a31 := Tryd.isAgg61
  z31 := Tryd.sizeOf61
  v31 := Tryd.zeroValue61
  t37 := Tryd.underlying97
  a37 := Tryd.isAgg97
  z37 := Tryd.sizeOf97
  v37 := Tryd.zeroValue97
  t70 := Tryd.underlying96
  a70 := Tryd.isAgg96
  z70 := Tryd.sizeOf96
  v70 := Tryd.zeroValue96
  t72 := Tryd.underlying99
  a72 := Tryd.isAgg99
  z72 := Tryd.sizeOf99
  v72 := Tryd.zeroValue99
  t75 := Tryd.underlying102
  a75 := Tryd.isAgg102
  z75 := Tryd.sizeOf102
  v75 := Tryd.zeroValue102
  t76 := Tryd.underlying103
  a76 := Tryd.isAgg103
  z76 := Tryd.sizeOf103
  v76 := Tryd.zeroValue103
  t127 := Tryd.underlying126
  a127 := Tryd.isAgg126
  z127 := Tryd.sizeOf126
  v127 := Tryd.zeroValue126
  t164 := Tryd.underlying139
  a164 := Tryd.isAgg139
  z164 := Tryd.sizeOf139
  v164 := Tryd.zeroValue139
theorem joinBuilder_Extra : Builder.Extra Tryd.prog joinRen where
  sizeBuilder := by first | kernel_rfl | decide   -- Option.map (fun x => x.size) (P.info? (ρ.t 72)) = some 2
  liesBuilder := by first | kernel_rfl | decide   -- liesAt P P.depth (ρ.t 72) (2 / P.cellsOf (ρ.t 72)) 0 (ρ.t 72) 1 = true
  t5 := Tryd.underlying5
  a5 := Tryd.isAgg5
  z5 := Tryd.sizeOf5
  v5 := Tryd.zeroValue5
  infoByte := by first | kernel_rfl | decide   -- Option.map (fun i => (i.zero, i.size, i.bytes)) (P.info? (ρ.t 5)) = some (some (Value.int IntKind.u8 0), 1, 1)
  cellsByte := by first | kernel_rfl | decide   -- P.cellsOf (ρ.t 5) = 1
  sizeByte := by first | kernel_rfl | decide   -- Option.map (fun x => x.size) (P.info? (ρ.t 5)) = some 1
  neB5 := by first | kernel_rfl | decide   -- ρ.t 72 ≠ ρ.t 5

theorem join_c (xs : List ByteArray) (sep : ByteArray) (hN : xs.length ≤ 1000000000) (hlen : (Lib.join (xs.map (·.data.toList)) sep.data.toList).length ≤ 140737488355328) :
    RealCall Tryd.prog 24 [.sl xs.length (strP xs), .str sep] (.str (joinB xs sep)) true :=
  join_real joinLays_n156 joinBuilder_Extra ⟨Tryd.f24, Tryd.func24, by kernel_rfl, by kernel_rfl⟩ xs sep hN hlen
end Go.Proofs.YtiialcomflggcaaDoor
namespace Go.Proofs.YtiialcomflggcaaDoor
open Go Go.Fi
set_option maxRecDepth 20000

theorem lens_le (c : Nat) : ∀ l : List (List UInt8), (∀ x ∈ l, x.length ≤ c) → Lib.lens l ≤ l.length * c
  | [], _ => by simp [Lib.lens]
  | x :: r, h => by
    have h1 := h x (by simp)
    have h2 := lens_le c r (fun z hz => h z (List.mem_cons_of_mem _ hz))
    simp only [Lib.lens, List.map_cons, List.sum_cons, List.length_cons, Nat.add_mul, Nat.one_mul] at h2 ⊢
    omega
theorem join_le (sep : List UInt8) (c : Nat) (l : List (List UInt8)) (h : ∀ x ∈ l, x.length ≤ c) : (Lib.join l sep).length ≤ l.length * c + sep.length * l.length := by
  cases l with
  | nil => simp [Lib.join]
  | cons x r =>
    have h1 := lens_le c _ h
    have h2 : sep.length * r.length ≤ sep.length * (x :: r).length := Nat.mul_le_mul_left _ (by simp)
    rw [Lib.join_length]
    omega
def stA (l : List ByteArray) : List AV := (strP l).map (.w false false)
theorem strP_flat : ∀ l : List ByteArray, flatL (strP l) = true
  | [] => rfl
  | x :: r => by have := strP_flat r; simpa [strP, flatL] using this
@[simp] theorem stA_len (l : List ByteArray) : (stA l).length = l.length := by simp [stA, strP]
@[simp] theorem stA_nil : stA [] = [] := rfl
@[simp] theorem stA_snoc (a : List ByteArray) (x : ByteArray) : stA a ++ [.w false false (.str x)] = stA (a ++ [x]) := by simp [stA, strP]
@[simp] theorem stA_lt (l : List ByteArray) (n : Nat) : AV.lt.ltL n (stA l) = true := ltL_map n false false _
@[simp] theorem stA_self {D : List Nat} {h : Heap} {n n' : Nat} (l : List ByteArray) : cellsLe D h n n' (stA l) (stA l) = True := eq_true (cellsLe_w false false _)
@[simp high] theorem stA_frz (h : Heap) (d : Nat) (l : List ByteArray) : (stA l).mapM (frz h d) = some (strP l) := mapM_frz h d false false _
@[simp high] theorem stA_fresh (h : Heap) (d : Nat) (l : List ByteArray) : (stA l).all (freshA h d) = true := all_flat h d false false _ (strP_flat l)
@[simp] theorem strP_len (l : List ByteArray) : (strP l).length = l.length := by simp [strP]
@[simp] theorem strP_nil : strP [] = [] := rfl

/-! ### the text of stops -/
def wordOf (p : Plan) (s : Stop) : ByteArray := (if s.out = true then ⟨#[45]⟩ else ⟨#[43]⟩) ++ (riderOf p s).name
def wordsF (p : Plan) : List Stop → List ByteArray
  | [] => []
  | s :: ss => if winB s.rider 0 ((p.riders.length : Int) - 1) = true then wordOf p s :: wordsF p ss else wordsF p ss
@[simp] theorem wordsF_nil (p : Plan) : wordsF p [] = [] := rfl
theorem wordsF_snoc (p : Plan) (s : Stop) : ∀ l : List Stop, wordsF p (l ++ [s]) = wordsF p l ++ (if winB s.rider 0 ((p.riders.length : Int) - 1) = true then [wordOf p s] else [])
  | [] => by simp only [List.nil_append, wordsF]
  | x :: l => by
    simp only [List.cons_append, wordsF, wordsF_snoc p s l]
    split <;> simp
theorem wordsF_len (p : Plan) : ∀ l : List Stop, (wordsF p l).length ≤ l.length
  | [] => Nat.le_refl _
  | s :: ss => by have := wordsF_len p ss; simp only [wordsF]; split <;> simp <;> omega
theorem wordsF_size {p : Plan} (h : ∀ k, k < p.riders.length → (nth p.riders k).name.size < 1000000) : ∀ (l : List Stop) (x : ByteArray), x ∈ wordsF p l → x.size ≤ 1000001
  | [], x, hx => by cases hx
  | s :: ss, x, hx => by
    unfold wordsF at hx
    split at hx
    · rename_i hw
      rcases List.mem_cons.1 hx with rfl | hx
      · obtain ⟨j, hj, hjl⟩ := winB_nat hw
        have := h j hjl
        unfold wordOf riderOf
        rw [hj, Int.toNat_natCast, ByteArray.size_append]
        have e : (if s.out = true then (⟨#[45]⟩ : ByteArray) else ⟨#[43]⟩).size = 1 := by split <;> rfl
        omega
      · exact wordsF_size h ss x hx
    · exact wordsF_size h ss x hx
def formatS (p : Plan) : ByteArray := joinB (wordsF p p.stops) ⟨#[32]⟩
set_option maxHeartbeats 4000000 in
theorem format_c (p : Plan) (hp : PlanIn p) : RealCall Tryd.prog 6 [aPlan p] (.str (formatS p)) true := by
  have hrl := hp.riders
  have hsl := hp.stops
  have hnm := hp.names
  have hl := wordsF_len p p.stops
  have cj := join_c (wordsF p p.stops) ⟨#[32]⟩ (by omega) (by
    have h1 := join_le [32] 1000001 ((wordsF p p.stops).map (·.data.toList)) (fun x hx => by
      obtain ⟨y, hy, rfl⟩ := List.mem_map.1 hx
      have := wordsF_size hnm _ y hy
      simpa using this)
    rw [List.length_map] at h1
    have h2 : (wordsF p p.stops).length * 1000001 ≤ 10000 * 1000001 := Nat.mul_le_mul (by omega) (Nat.le_refl _)
    have h4 : ([32] : List UInt8).length = 1 := rfl
    rw [h4] at h1
    have h3 : (⟨#[32]⟩ : ByteArray).data.toList = [32] := rfl
    rw [h3]
    omega)
  have kj := keep cj
  clear cj hp hl
  unfold formatS aPlan cPlan
  refine realcall_intro Tryd.func6 (by kernel_rfl) rfl (Nat.le_of_ble_eq_true (by kernel_rfl)) ?_
  simp only [Tryd.results6, Tryd.ntmps6]
  repeat' (first | (with_reducible first | refine awp_seq ?_ | refine awp_blockS ?_ | refine awp_blockC ?_ | refine awp_blockR ?_ | refine awp_skip ?_ | refine awp_ret ?_ | refine awp_exit ?_ | refine awp_region ?_ | refine awp_condM ?_ | refine And.intro ?_ ?_ | apply gQ_merge | apply gE_merge | exact EqV_w | exact EqE_w | exact EqV_ptr | exact EqE_ptr | exact EqV_msl | exact EqE_msl | exact EqV_agg | exact EqE_agg | exact EqV_fn | exact EqE_fn | exact EqV_gd | exact EqE_gd | refine gM_splitN ?_ ?_ | refine gM_split ?_ ?_ |  refine condM_splitDN ?_ ?_ | refine condM_splitD ?_ ?_ | refine condM_splitN ?_ ?_ | refine condM_split ?_ ?_ | refine condM_any ?_ ?_ | intro _) | (simp [*]))
  refine awp_for4 2 (fun (k : Nat) => k ≤ p.stops.length) [1, 8, 9] (fun (k : Nat) => [(10, .w false false (.int .i64 k)), (3, .msl 1 (wordsF p (p.stops.take k)).length 1 0 (wordsF p (p.stops.take k)).length)]) [0] (fun (k : Nat) => [(1, stA (wordsF p (p.stops.take k)))]) (fun (k : Nat) => p.stops.length - k) (fun (_u : Unit) => True) [] (fun (_u : Unit) => [(3, .msl 1 (wordsF p p.stops).length 1 0 (wordsF p p.stops).length)]) [] (fun (_u : Unit) => [(1, stA (wordsF p p.stops))]) (0) (Nat.zero_le _) (le_gen [] (by simp) (by simp)) (fun k hk => ?_) (fun _u hf => ?_)
  · by_cases hlt : k < p.stops.length
    · have hs := wordsF_snoc p (nth p.stops k) (p.stops.take k)
      rw [← take_succ_nth p.stops k hlt] at hs
      have hwl := wordsF_len p (p.stops.take k)
      rw [take_len _ _ hk] at hwl
      generalize hst : nth p.stops k = s at *
      obtain ⟨sr, so⟩ := s
      cases hw : winB sr 0 ((p.riders.length : Int) - 1) with
      | false =>
        rw [if_neg (by rw [show (⟨sr, so⟩ : Stop).rider = sr from rfl, hw]; decide), List.append_nil] at hs
        have ks := keep hs
        clear hs hnm
        repeat' (first | (with_reducible first | refine awp_seq ?_ | refine awp_blockS ?_ | refine awp_blockC ?_ | refine awp_blockR ?_ | refine awp_skip ?_ | refine awp_ret ?_ | refine awp_exit ?_ | refine awp_region ?_ | refine awp_condM ?_ | refine And.intro ?_ ?_ | apply gQ_merge | apply gE_merge | exact EqV_w | exact EqE_w | exact EqV_ptr | exact EqE_ptr | exact EqV_msl | exact EqE_msl | exact EqV_agg | exact EqE_agg | exact EqV_fn | exact EqE_fn | exact EqV_gd | exact EqE_gd | refine gM_splitN ?_ ?_ | refine gM_split ?_ ?_ |  refine condM_splitDN ?_ ?_ | refine condM_splitD ?_ ?_ | refine condM_splitN ?_ ?_ | refine condM_split ?_ ?_ | refine condM_any ?_ ?_ | refine cw (within_c _ _ _) ?_ | intro _) | (simp [*, hlt, cStop]) | (refine cw_eq (within_c _ _ _) ?_ ?_; (· (simp [*]; done))))
        all_goals try first | exact inI64 (by omega) (by omega) | omega
        all_goals (refine loopK_normal _ _ _ _ _ (k + 1) _ ?_ (by first | omega | (dsimp only; omega) | (simp; omega)) ?_; (· omega); (refine le_gen [] ?_ ?_ <;> first | trivial | (simp [*, show wordsF p (p.stops.take (k + 1)) = _ from ks]; done)))
      | true =>
        rw [if_pos hw] at hs
        obtain ⟨j, rfl, hj⟩ := winB_nat hw
        have hz := hnm j hj
        clear hnm
        cases so with
        | true =>
          have e : wordOf p ⟨(j : Int), true⟩ = ⟨#[45]⟩ ++ (nth p.riders j).name := rfl
          rw [e] at hs
          have ks := keep hs
          clear hs e
          repeat' (first | (with_reducible first | refine awp_seq ?_ | refine awp_blockS ?_ | refine awp_blockC ?_ | refine awp_blockR ?_ | refine awp_skip ?_ | refine awp_ret ?_ | refine awp_exit ?_ | refine awp_region ?_ | refine awp_condM ?_ | refine And.intro ?_ ?_ | apply gQ_merge | apply gE_merge | exact EqV_w | exact EqE_w | exact EqV_ptr | exact EqE_ptr | exact EqV_msl | exact EqE_msl | exact EqV_agg | exact EqE_agg | exact EqV_fn | exact EqE_fn | exact EqV_gd | exact EqE_gd | refine gM_splitN ?_ ?_ | refine gM_split ?_ ?_ |  refine condM_splitDN ?_ ?_ | refine condM_splitD ?_ ?_ | refine condM_splitN ?_ ?_ | refine condM_split ?_ ?_ | refine condM_any ?_ ?_ | refine cw (within_c _ _ _) ?_ | intro _) | (simp [*, hlt, cStop]) | (refine cw_eq (within_c _ _ _) ?_ ?_; (· (simp [*]; done))))
          all_goals try first | exact inI64 (by omega) (by omega) | omega | (show 1 + (nth p.riders j).name.size ≤ 1000000000000; omega)
          all_goals (refine loopK_normal _ _ _ _ _ (k + 1) _ ?_ (by first | omega | (dsimp only; omega) | (simp; omega)) ?_; (· omega); (refine le_gen [] ?_ ?_ <;> first | trivial | (simp [*, show wordsF p (p.stops.take (k + 1)) = _ from ks]; done)))
        | false =>
          have e : wordOf p ⟨(j : Int), false⟩ = ⟨#[43]⟩ ++ (nth p.riders j).name := rfl
          rw [e] at hs
          have ks := keep hs
          clear hs e
          repeat' (first | (with_reducible first | refine awp_seq ?_ | refine awp_blockS ?_ | refine awp_blockC ?_ | refine awp_blockR ?_ | refine awp_skip ?_ | refine awp_ret ?_ | refine awp_exit ?_ | refine awp_region ?_ | refine awp_condM ?_ | refine And.intro ?_ ?_ | apply gQ_merge | apply gE_merge | exact EqV_w | exact EqE_w | exact EqV_ptr | exact EqE_ptr | exact EqV_msl | exact EqE_msl | exact EqV_agg | exact EqE_agg | exact EqV_fn | exact EqE_fn | exact EqV_gd | exact EqE_gd | refine gM_splitN ?_ ?_ | refine gM_split ?_ ?_ |  refine condM_splitDN ?_ ?_ | refine condM_splitD ?_ ?_ | refine condM_splitN ?_ ?_ | refine condM_split ?_ ?_ | refine condM_any ?_ ?_ | refine cw (within_c _ _ _) ?_ | intro _) | (simp [*, hlt, cStop]) | (refine cw_eq (within_c _ _ _) ?_ ?_; (· (simp [*]; done))))
          all_goals try first | exact inI64 (by omega) (by omega) | omega | (show 1 + (nth p.riders j).name.size ≤ 1000000000000; omega)
          all_goals (refine loopK_normal _ _ _ _ _ (k + 1) _ ?_ (by first | omega | (dsimp only; omega) | (simp; omega)) ?_; (· omega); (refine le_gen [] ?_ ?_ <;> first | trivial | (simp [*, show wordsF p (p.stops.take (k + 1)) = _ from ks]; done)))
    · have hke : k = p.stops.length := by omega
      subst hke
      repeat' (first | (with_reducible first | refine awp_seq ?_ | refine awp_blockS ?_ | refine awp_blockC ?_ | refine awp_blockR ?_ | refine awp_skip ?_ | refine awp_ret ?_ | refine awp_exit ?_ | refine awp_region ?_ | refine awp_condM ?_ | refine And.intro ?_ ?_ | apply gQ_merge | apply gE_merge | exact EqV_w | exact EqE_w | exact EqV_ptr | exact EqE_ptr | exact EqV_msl | exact EqE_msl | exact EqV_agg | exact EqE_agg | exact EqV_fn | exact EqE_fn | exact EqV_gd | exact EqE_gd | refine gM_splitN ?_ ?_ | refine gM_split ?_ ?_ |  refine condM_splitDN ?_ ?_ | refine condM_splitD ?_ ?_ | refine condM_splitN ?_ ?_ | refine condM_split ?_ ?_ | refine condM_any ?_ ?_ | intro _) | (simp [*]))
      all_goals (refine finW_intro () ?_ ?_; (· trivial); (refine le_gen [] ?_ ?_ <;> first | trivial | (simp [*, List.take_length]; done)))
  · repeat' (first | (with_reducible first | refine awp_seq ?_ | refine awp_blockS ?_ | refine awp_blockC ?_ | refine awp_blockR ?_ | refine awp_skip ?_ | refine awp_ret ?_ | refine awp_exit ?_ | refine awp_region ?_ | refine awp_condM ?_ | refine And.intro ?_ ?_ | apply gQ_merge | apply gE_merge | exact EqV_w | exact EqE_w | exact EqV_ptr | exact EqE_ptr | exact EqV_msl | exact EqE_msl | exact EqV_agg | exact EqE_agg | exact EqV_fn | exact EqE_fn | exact EqV_gd | exact EqE_gd | refine gM_splitN ?_ ?_ | refine gM_split ?_ ?_ |  refine condM_splitDN ?_ ?_ | refine condM_splitD ?_ ?_ | refine condM_splitN ?_ ?_ | refine condM_split ?_ ?_ | refine condM_any ?_ ?_ | refine cw ((show RealCall _ _ _ _ _ from kj)) ?_ | intro _) | (simp [*]) | (refine cw_eq ((show RealCall _ _ _ _ _ from kj)) ?_ ?_; (· (simp [*]; done))))
end Go.Proofs.YtiialcomflggcaaDoor

