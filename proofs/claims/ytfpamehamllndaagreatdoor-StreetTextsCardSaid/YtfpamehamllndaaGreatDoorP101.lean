/- Contracts of functions for this claim: lemmas alone. -/
import Derived.Test.YtfpamehamllndaaGreatDoorP34
import Derived.Test.YtfpamehamllndaaGreatDoorP100
import Derived.Test.YtfpamehamllndaaGreatDoorLr
import Derived.Test.YtfpamehamllndaaGreatDoorLv
import Derived.Test.YtfpamehamllndaaGreatDoorLbg
import Derived.Lib.ItoaNum
import Derived.Test.YtfpamehamllndaaGreatDoorP20
import Derived.Lib.ItoaLen
set_option linter.unusedSimpArgs false
set_option linter.unusedVariables false
namespace Go.Proofs.YtfpamehamllndaaGreatDoor
open Go Go.Fi Go.RowKit Go.Shelf
set_option maxRecDepth 20000

/-! ### texts, by the shelf -/
theorem maxLen_cell {g : Nat} (hg : Tryz.prog.globalNamed "internal/bytealg.MaxLen" = some g) (w : World) (h : LaidW.ok w) : ∃ m, w.cell? ⟨g, 0, none⟩ = some (.int .i64 m) := by
  obtain ⟨m, hm⟩ := (show LaidOk w from h).maxLen
  exact ⟨m, by simpa using World.var?_cell hg hm 0⟩
theorem splitT_c (s sep : ByteArray) (hs : s.size < 4294967281) (h1 : 1 ≤ sep.size) : RealCall Tryz.prog 26 [.str s, .str sep] (.sl (pieces s sep).length (strP (pieces s sep))) true :=
  split_real splitLays_n146 ⟨_, Tryz.func26, by kernel_rfl, by kernel_rfl⟩ (by kernel_rfl) (maxLen_cell (by kernel_rfl)) s sep hs h1
theorem join_c (xs : List ByteArray) (sep : ByteArray) (hN : xs.length ≤ 1000000000) (hlen : (Lib.join (xs.map (·.data.toList)) sep.data.toList).length ≤ 140737488355328) : RealCall Tryz.prog 50 [.sl xs.length (strP xs), .str sep] (.str (joinB xs sep)) true :=
  join_real joinLays_n156 joinBuilder_Extra ⟨_, Tryz.func50, by kernel_rfl, by kernel_rfl⟩ xs sep hN hlen
theorem itoa_c (n : Int) (h0 : -9223372036854775808 ≤ n) (h1 : n ≤ 9223372036854775807) : RealCall Tryz.prog 49 [.int .i64 n] (.str (dec n)) true :=
  itoa_real itoaLaysM_n171 ⟨_, Tryz.func49, by kernel_rfl, by kernel_rfl⟩ (fun _ h => (show LaidOk _ from h).pow) n h0 h1
theorem trimP_c (s p : ByteArray) : RealCall Tryz.prog 83 [.str s, .str p] (.str ⟨(Lib.trimPrefix s.data.toList p.data.toList).toArray⟩) true :=
  trim_real trimLays_n101 ⟨_, Tryz.func83, by kernel_rfl, by kernel_rfl⟩ s p
theorem contT_c (xs : List ByteArray) (x : ByteArray) (hl : xs.length ≤ 1000000000) : RealCall Tryz.prog 54 [.sl xs.length (strP xs), .str x] (.bool (Lib.containsS xs x)) true :=
  cont_real contLays_n110 ⟨_, Tryz.func54, by kernel_rfl, by kernel_rfl⟩ xs x hl
theorem atoi_c (s : ByteArray) (hmax : s.size ≤ 9223372036854775806) (v : Int) (h : Lib.atoiAll s.data.toList = .ok v) : RealCall Tryz.prog 82 [.str s] (.tup [.int .i64 v, .nili]) true :=
  atoi_real atoiLaysC_n172 ⟨_, Tryz.func82, by kernel_rfl, by kernel_rfl⟩ s hmax v h
/-- the builder that Print has -/
theorem write_C : WriteC Tryz.prog (joinRen.t 72) (joinRen.t 5) 19 := writeC { joinLays_n156 with } joinBuilder_Extra
theorem text_C : TextC Tryz.prog (joinRen.t 72) (joinRen.t 5) 21 := textC { joinLays_n156 with } joinBuilder_Extra
theorem strP_flat : ∀ l : List ByteArray, flatL (strP l) = true
  | [] => rfl
  | x :: r => by have := strP_flat r; simpa [strP, flatL, flat] using this
def stA (l : List ByteArray) : List AV := (strP l).map (.w false false)
@[simp] theorem strP_len (l : List ByteArray) : (strP l).length = l.length := by simp [strP]
@[simp] theorem strP_nil : strP [] = [] := rfl
@[simp] theorem strP_get (l : List ByteArray) (k : Nat) (h : k < l.length) : nthP (strP l) k = .str (nth l k) := nthP_map _ l k h
@[simp] theorem strP_take (l : List ByteArray) (k : Nat) : (strP l).take k = strP (l.take k) := by simp [strP, List.map_take]
@[simp] theorem strP_drop (l : List ByteArray) (k : Nat) : (strP l).drop k = strP (l.drop k) := by simp [strP, List.map_drop]
@[simp] theorem stA_len (l : List ByteArray) : (stA l).length = l.length := by simp [stA]
@[simp] theorem stA_nil : stA [] = [] := rfl
@[simp] theorem stA_snoc (a : List ByteArray) (x : ByteArray) : stA a ++ [.w false false (.str x)] = stA (a ++ [x]) := by simp [stA, strP]
@[simp] theorem stA_lt (l : List ByteArray) (n : Nat) : AV.lt.ltL n (stA l) = true := ltL_map n false false _
@[simp] theorem stA_self {D : List Nat} {h : Heap} {n n' : Nat} (l : List ByteArray) : cellsLe D h n n' (stA l) (stA l) = True := eq_true (cellsLe_w false false _)
@[simp high] theorem stA_frz (h : Heap) (d : Nat) (l : List ByteArray) : (stA l).mapM (frz h d) = some (strP l) := mapM_frz h d false false _
@[simp high] theorem stA_fresh (h : Heap) (d : Nat) (l : List ByteArray) : (stA l).all (freshA h d) = true := all_flat h d false false _ (strP_flat l)
/-! ### the reference's cut of a text at a byte -/
theorem byte_eq (s : ByteArray) (k : Nat) (c : UInt8) : decide ((byteAt s k : Int) = (c.toNat : Int)) = decide (s.data.toList.getD k 0 = c) := by
  unfold byteAt
  by_cases h : s.data.toList.getD k 0 = c
  · rw [h]; simp
  · rw [decide_eq_false h, decide_eq_false]
    intro e
    exact h (UInt8.toNat_inj.1 (by omega))
set_option maxHeartbeats 4000000 in
theorem rCut_c (s : ByteArray) (c : UInt8) (hs : s.size < 1000000) : RealCall Tryz.prog 28 [.str s, .int .u8 c.toNat] (.sl (pieces s ⟨#[c]⟩).length (strP (pieces s ⟨#[c]⟩))) true := by
  rw [cut_pieces]
  have e0 : cutFr c s 0 = 0 := rfl
  have e1 : cutCl c s 0 = [] := rfl
  refine realcall_intro Tryz.func28 (by kernel_rfl) rfl (Nat.le_of_ble_eq_true (by kernel_rfl)) ?_
  simp only [Tryz.results28, Tryz.ntmps28]
  repeat' (first | (with_reducible first | refine awp_seq ?_ | refine awp_region ?_ | exact EqV_w | exact EqE_w | exact EqV_fn | exact EqE_fn | exact EqV_gd | exact EqE_gd | intro _) | (simp [*, repl]))
  refine awp_for4 1 (fun (k : Nat) => k ≤ s.size) [0, 1] (fun (k : Nat) => [(7, .w false false (.int .i64 k)), (6, .w false false (.int .i64 (cutFr c s k))), (5, .msl 0 (cutCl c s k).length 1 0 (cutCl c s k).length)]) [] (fun (k : Nat) => [(0, stA (cutCl c s k))]) (fun (k : Nat) => s.size - k) (fun (_u : Unit) => True) [0] (fun (_u : Unit) => [(6, .w false false (.int .i64 (cutFr c s s.size))), (5, .msl 0 (cutCl c s s.size).length 1 0 (cutCl c s s.size).length)]) [] (fun (_u : Unit) => [(0, stA (cutCl c s s.size))]) (0) (Nat.zero_le _) (le_gen [] (by simp [e0, e1, stA, strP]) (by simp [e0, e1, stA, strP])) (fun k hk => ?_) (fun _u hf => ?_)
  · clear e0 e1
    by_cases hlt : k < s.size
    · have hltI : (k : Int) < (s.size : Int) := by omega
      have hf := cutFr_le c s k
      have hcl := cutCl_len c s k
      have hfI : (cutFr c s k : Int) ≤ (k : Int) := by omega
      have y1 := cutFr_succ c s k
      have y2 := cutCl_succ c s k
      have hbe := byte_eq s k c
      by_cases hc : s.data.toList.getD k 0 = c
      · rw [if_pos hc] at y1 y2
        rw [decide_eq_true hc] at hbe
        have hb := of_decide_eq_true hbe
        have k1 := keep y1
        have k2 := keep y2
        clear hbe hc y1 y2
        generalize cutFr c s k = f at *
        generalize cutCl c s k = L at *
        repeat' (first | (with_reducible first | refine awp_seq ?_ | refine awp_blockS ?_ | refine awp_skip ?_ | refine awp_region ?_ | refine awp_condM ?_ | refine And.intro ?_ ?_ | exact EqV_w | exact EqE_w | exact EqV_fn | exact EqE_fn | exact EqV_gd | exact EqE_gd | intro _) | (simp [*, hlt, hltI, hb]))
        all_goals try first | exact inI64 (by omega) (by omega) | omega
        all_goals (refine loopK_normal _ _ _ _ _ (k + 1) _ ?_ (by first | omega | (dsimp only; omega) | (simp; omega)) ?_; (· omega); (refine le_gen [] ?_ ?_ <;> first | trivial | (simp [*, (show cutFr c s (k + 1) = _ from k1), (show cutCl c s (k + 1) = _ from k2)]; done)))
      · rw [if_neg hc] at y1 y2
        rw [decide_eq_false hc] at hbe
        have hb := of_decide_eq_false hbe
        have k1 := keep y1
        have k2 := keep y2
        clear hbe hc y1 y2
        generalize cutFr c s k = f at *
        generalize cutCl c s k = L at *
        repeat' (first | (with_reducible first | refine awp_seq ?_ | refine awp_blockS ?_ | refine awp_skip ?_ | refine awp_region ?_ | refine awp_condM ?_ | refine And.intro ?_ ?_ | exact EqV_w | exact EqE_w | exact EqV_fn | exact EqE_fn | exact EqV_gd | exact EqE_gd | intro _) | (simp [*, hlt, hltI, hb]))
        all_goals try first | exact inI64 (by omega) (by omega) | omega
        all_goals (refine loopK_normal _ _ _ _ _ (k + 1) _ ?_ (by first | omega | (dsimp only; omega) | (simp; omega)) ?_; (· omega); (refine le_gen [] ?_ ?_ <;> first | trivial | (simp [*, (show cutFr c s (k + 1) = _ from k1), (show cutCl c s (k + 1) = _ from k2)]; done)))
    · have hke : k = s.size := by omega
      subst hke
      repeat' (first | (with_reducible first | refine awp_seq ?_ | refine awp_exit ?_ | refine awp_region ?_ | refine awp_condM ?_ | exact EqV_w | exact EqE_w | exact EqV_fn | exact EqE_fn | exact EqV_gd | exact EqE_gd | intro _) | (simp [*]))
      all_goals (refine finW_intro () ?_ ?_; (· trivial); (refine le_gen [] ?_ ?_ <;> first | trivial | (simp [*]; done)))
  · clear e0 e1 hf
    have hf := cutFr_le c s s.size
    have hcl := cutCl_len c s s.size
    generalize cutFr c s s.size = f at *
    generalize cutCl c s s.size = L at *
    have hfI : (f : Int) ≤ (s.size : Int) := by omega
    repeat' (first | (with_reducible first | refine awp_seq ?_ | refine awp_ret ?_ | refine awp_region ?_ | refine And.intro ?_ ?_ | exact EqV_w | exact EqE_w | exact EqV_fn | exact EqE_fn | exact EqV_gd | exact EqE_gd | intro _) | (simp [*]))
    all_goals try first | exact inI64 (by omega) (by omega) | omega
end Go.Proofs.YtfpamehamllndaaGreatDoor
namespace Go.Proofs.YtfpamehamllndaaGreatDoor
open Go Go.Fi Go.RowKit
set_option maxRecDepth 20000

/-! ### a line of a text -/
theorem lens_le (c : Nat) : ∀ l : List (List UInt8), (∀ x ∈ l, x.length ≤ c) → Lib.lens l ≤ l.length * c
  | [], _ => by simp [Lib.lens]
  | x :: r, h => by
    have h1 := h x (by simp)
    have h2 := lens_le c r (fun z hz => h z (List.mem_cons_of_mem _ hz))
    simp only [Lib.lens, List.map_cons, List.sum_cons, List.length_cons, Nat.add_mul, Nat.one_mul] at h2 ⊢
    omega
theorem join_le (sep : List UInt8) (c : Nat) (l : List (List UInt8)) (h : ∀ x ∈ l, x.length ≤ c) : (Lib.join l sep).length ≤ l.length * c + sep.length * l.length := by
  cases l with
  | nil => simp [Lib.join]
  | cons x r =>
    have h1 := lens_le c _ h
    have h2 : sep.length * r.length ≤ sep.length * (x :: r).length := Nat.mul_le_mul_left _ (by simp)
    rw [Lib.join_length]
    omega
theorem dec_size {n : Int} (h0 : -9223372036854775808 ≤ n) (h1 : n ≤ 9223372036854775807) : (dec n).size ≤ 21 := by
  have := Lib.itoa_length_le n h0 h1
  show (Lib.itoa n).toArray.size ≤ 21
  rw [List.size_toArray]; exact this
abbrev sp1 : ByteArray := ⟨#[32]⟩
abbrev nl1 : ByteArray := ⟨#[10]⟩
def wsK (ws : List ByteArray) (l : List Int) (k : Nat) : List ByteArray := ws ++ (l.take k).map dec
theorem wsK_succ (ws : List ByteArray) (l : List Int) (k : Nat) (h : k < l.length) : wsK ws l (k + 1) = wsK ws l k ++ [dec (nth l k)] := by
  unfold wsK
  rw [List.take_succ_eq_append_getElem h, List.map_append, List.append_assoc]
  have : nth l k = l[k] := by simp [nth, List.getD_eq_getElem?_getD, List.getElem?_eq_getElem h]
  rw [this]; rfl
theorem wsK_len (ws : List ByteArray) (l : List Int) (k : Nat) (h : k ≤ l.length) : (wsK ws l k).length = ws.length + k := by
  unfold wsK
  rw [List.length_append, List.length_map, List.length_take]; omega
theorem wsK_zero (ws : List ByteArray) (l : List Int) : wsK ws l 0 = ws := by simp [wsK]
def lineT (ws : List ByteArray) (l : List Int) : ByteArray := joinB (wsK ws l l.length) sp1 ++ nl1
structure LineIn (ws : List ByteArray) (l : List Int) : Prop where
  nw : ws.length ≤ 4
  sz : ∀ x ∈ ws, x.size ≤ 1000
  nl : l.length ≤ 3
  lo : ∀ k, k < l.length → -9223372036854775808 ≤ nth l k
  hi : ∀ k, k < l.length → nth l k ≤ 9223372036854775807
theorem mem_nth {α : Type} [Inhabited α] {l : List α} {x : α} (h : x ∈ l) : ∃ k, k < l.length ∧ nth l k = x := by
  obtain ⟨k, hk, rfl⟩ := List.getElem_of_mem h
  exact ⟨k, hk, by simp [nth, List.getD_eq_getElem?_getD, List.getElem?_eq_getElem hk]⟩
theorem wsK_size {ws : List ByteArray} {l : List Int} (h : LineIn ws l) : ∀ x ∈ wsK ws l l.length, x.size ≤ 1000 := by
  intro x hx
  unfold wsK at hx
  rw [List.take_length] at hx
  rcases List.mem_append.1 hx with hx | hx
  · exact h.sz x hx
  · obtain ⟨y, hy, rfl⟩ := List.mem_map.1 hx
    obtain ⟨k, hk, rfl⟩ := mem_nth hy
    have := dec_size (h.lo k hk) (h.hi k hk)
    omega
theorem join_len {ws : List ByteArray} {l : List Int} (h : LineIn ws l) : (Lib.join ((wsK ws l l.length).map (·.data.toList)) [32]).length ≤ 7007 := by
  have h1 := join_le [32] 1000 ((wsK ws l l.length).map (·.data.toList)) (fun x hx => by
    obtain ⟨y, hy, rfl⟩ := List.mem_map.1 hx
    have := wsK_size h y hy
    simpa using this)
  have h2 := wsK_len ws l l.length (Nat.le_refl _)
  rw [List.length_map, h2] at h1
  have h3 := h.nw
  have h4 := h.nl
  have h5 : ([32] : List UInt8).length = 1 := rfl
  rw [h5] at h1
  have h6 : (ws.length + l.length) * 1000 ≤ 7 * 1000 := Nat.mul_le_mul (by omega) (Nat.le_refl _)
  omega
theorem lineJoin_c {ws : List ByteArray} {l : List Int} (h : LineIn ws l) : RealCall Tryz.prog 50 [.sl (ws.length + l.length) (strP (wsK ws l l.length)), .str sp1] (.str (joinB (wsK ws l l.length) sp1)) true := by
  have hw := wsK_len ws l l.length (Nat.le_refl _)
  have := join_c (wsK ws l l.length) sp1 (by have := h.nw; have := h.nl; omega) (by
    have := join_len h
    have h3 : (⟨#[32]⟩ : ByteArray).data.toList = [32] := rfl
    rw [h3]; omega)
  rw [hw] at this
  exact this
theorem lineT_size {ws : List ByteArray} {l : List Int} (h : LineIn ws l) : (lineT ws l).size ≤ 7008 := by
  unfold lineT
  rw [ByteArray.size_append]
  have := join_len h
  have e1 : (joinB (wsK ws l l.length) sp1).size = (Lib.join ((wsK ws l l.length).map (·.data.toList)) [32]).length := by
    show (Lib.join _ _).toArray.size = _
    rw [List.size_toArray]
  have e2 : nl1.size = 1 := rfl
  omega

/-- with numbers: walked where it is called -/
theorem line_w (ws : List ByteArray) (l : List Int) (h : LineIn ws l) {Kv : AV → Heap → Nat → Prop} (hK : ∀ h' n', Kv (.w false false (.str (lineT ws l))) h' n') :
    AWPk ⟨3, none⟩ Tryz.prog (Tryz.f20.body.getD .skip) ⟨envA 0 [.msl 1 ws.length 1 0 ws.length, .msl 2 l.length 1 0 l.length], [(2, iA l), (1, stA ws)], 3, Tryz.f20.ntmps⟩ (inlK Tryz.prog Tryz.f20.results.toList Kv) := by
  have kj := keep (lineJoin_c h)
  have kK := keep hK
  have kh := keep h
  have ksz := keep (show (joinB (wsK ws l l.length) sp1).size + nl1.size ≤ 1000000000000 from by
    have := lineT_size h
    unfold lineT at this
    rw [ByteArray.size_append] at this
    omega)
  have h3 := h.nw
  have h4 := h.nl
  have hw0 := wsK_zero ws l
  clear hK h
  have hb : Tryz.f20.body = some _ := rfl
  rw [hb]
  clear hb
  simp only [Option.getD_some, Tryz.ntmps20, Tryz.results20]
  repeat' (first | (with_reducible first | refine awp_seq ?_ | refine awp_region ?_ | exact EqV_w | exact EqE_w | exact EqV_fn | exact EqE_fn | exact EqV_gd | exact EqE_gd | intro _) | (simp [*]))
  refine awp_for4 3 (fun (k : Nat) => k ≤ l.length) [7, 8] (fun (k : Nat) => [(9, .w false false (.int .i64 k)), (0, .msl 1 (ws.length + k) 1 0 (ws.length + k))]) [2] (fun (k : Nat) => [(1, stA (wsK ws l k))]) (fun (k : Nat) => l.length - k) (fun (_u : Unit) => True) [] (fun (_u : Unit) => [(0, .msl 1 (ws.length + l.length) 1 0 (ws.length + l.length))]) [] (fun (_u : Unit) => [(1, stA (wsK ws l l.length))]) (0) (Nat.zero_le _) (le_gen [] (by simp [hw0]) (by simp [hw0])) (fun k hk => ?_) (fun _u hf => ?_)
  · clear hw0 kj
    by_cases hlt : k < l.length
    · have h := show LineIn ws l from kh
      have c2 := itoa_c (nth l k) (h.lo k hlt) (h.hi k hlt)
      have ks := keep (wsK_succ ws l k hlt)
      have hwl := wsK_len ws l k hk
      clear kh h
      repeat' (first | (with_reducible first | refine awp_seq ?_ | refine awp_blockS ?_ | refine awp_skip ?_ | refine awp_region ?_ | refine awp_condM ?_ | refine And.intro ?_ ?_ | exact EqV_w | exact EqE_w | exact EqV_fn | exact EqE_fn | exact EqV_gd | exact EqE_gd | refine cw (c2) ?_ | intro _) | (simp [*, hlt, hwl]) | (refine cw_eq (c2) ?_ ?_; (· (simp [*]; done))))
      all_goals try first | exact inI64 (by omega) (by omega) | omega
      all_goals (refine loopK_normal _ _ _ _ _ (k + 1) _ ?_ (by first | omega | (dsimp only; omega) | (simp; omega)) ?_; (· omega); (refine le_gen [] ?_ ?_ <;> first | trivial | (simp [*, (show wsK ws l (k + 1) = _ from ks), Nat.add_assoc]; done)))
    · have hke : k = l.length := by omega
      subst hke
      clear kh
      repeat' (first | (with_reducible first | refine awp_seq ?_ | refine awp_exit ?_ | refine awp_region ?_ | refine awp_condM ?_ | exact EqV_w | exact EqE_w | exact EqV_fn | exact EqE_fn | exact EqV_gd | exact EqE_gd | intro _) | (simp [*]))
      all_goals (refine finW_intro () ?_ ?_; (· trivial); (refine le_gen [] ?_ ?_ <;> first | trivial | (simp [*]; done)))
  · clear hw0 kh
    have hwl := wsK_len ws l l.length (Nat.le_refl _)
    repeat' (first | (with_reducible first | refine awp_seq ?_ | refine awp_ret ?_ | refine awp_region ?_ | refine And.intro ?_ ?_ | exact EqV_w | exact EqE_w | exact EqV_fn | exact EqE_fn | exact EqV_gd | exact EqE_gd | intro _) | (simp [*, hwl]) | (refine cw_eq ((show RealCall _ _ _ _ _ from kj)) ?_ ?_; (· (simp [*]; done))))
    · exact ksz
    · simp [RetA, resL, resA, oneOf]
      exact kK _ _
/-- without numbers -/
theorem line0_w (ws : List ByteArray) (h : LineIn ws []) {Kv : AV → Heap → Nat → Prop} (hK : ∀ h' n', Kv (.w false false (.str (lineT ws []))) h' n') :
    AWPk ⟨2, none⟩ Tryz.prog (Tryz.f20.body.getD .skip) ⟨envA 0 [.msl 1 ws.length 1 0 ws.length, .w true true (.sl 0 [])], [(1, stA ws)], 2, Tryz.f20.ntmps⟩ (inlK Tryz.prog Tryz.f20.results.toList Kv) := by
  have cj := lineJoin_c h
  have hw0 : wsK ws [] ([] : List Int).length = ws := wsK_zero ws []
  have ksz := keep (show (joinB ws sp1).size + nl1.size ≤ 1000000000000 from by
    have := lineT_size h
    unfold lineT at this
    rw [ByteArray.size_append, hw0] at this
    omega)
  rw [hw0] at cj
  change RealCall _ _ [.sl ws.length _, _] _ _ at cj
  have kj := keep cj
  have kK := keep (show ∀ h' n', Kv (.w false false (.str (joinB ws sp1 ++ nl1))) h' n' from by
    intro h' n'
    have := hK h' n'
    unfold lineT at this
    rwa [hw0] at this)
  have h3 := h.nw
  clear hK h hw0 cj
  have hb : Tryz.f20.body = some _ := rfl
  rw [hb]
  clear hb
  simp only [Option.getD_some, Tryz.ntmps20, Tryz.results20]
  repeat' (first | (with_reducible first | refine awp_seq ?_ | refine awp_region ?_ | exact EqV_w | exact EqE_w | exact EqV_fn | exact EqE_fn | exact EqV_gd | exact EqE_gd | intro _) | (simp [*]))
  refine awp_for4 2 (fun (k : Nat) => k = 0) [7, 8] (fun (k : Nat) => [(9, .w false false (.int .i64 k)), (0, .msl 1 ws.length 1 0 ws.length)]) [] (fun (k : Nat) => [(1, stA ws)]) (fun (k : Nat) => 0 - k) (fun (_u : Unit) => True) [] (fun (_u : Unit) => [(0, .msl 1 ws.length 1 0 ws.length)]) [] (fun (_u : Unit) => [(1, stA ws)]) (0) rfl (le_gen [] (by simp) (by simp)) (fun k hk => ?_) (fun _u hf => ?_)
  · clear kj
    subst hk
    repeat' (first | (with_reducible first | refine awp_seq ?_ | refine awp_exit ?_ | refine awp_region ?_ | refine awp_condM ?_ | exact EqV_w | exact EqE_w | exact EqV_fn | exact EqE_fn | exact EqV_gd | exact EqE_gd | intro _) | (simp [*]))
    all_goals (refine finW_intro () ?_ ?_; (· trivial); (refine le_gen [] ?_ ?_ <;> first | trivial | (simp [*]; done)))
  · repeat' (first | (with_reducible first | refine awp_seq ?_ | refine awp_ret ?_ | refine awp_region ?_ | refine And.intro ?_ ?_ | exact EqV_w | exact EqE_w | exact EqV_fn | exact EqE_fn | exact EqV_gd | exact EqE_gd | intro _) | (simp [*]) | (refine cw_eq ((show RealCall _ _ _ _ _ from kj)) ?_ ?_; (· (simp [*]; done))))
    · exact ksz
    · simp [RetA, resL, resA, oneOf]
      exact kK _ _
end Go.Proofs.YtfpamehamllndaaGreatDoor

