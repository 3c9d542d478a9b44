/- Contracts of functions for this claim: lemmas alone. -/
import Derived.Test.YtfjpgnacofkipaaDoorP35
import Derived.Test.YtfjpgnacofkipaaDoorLr
import Derived.Test.YtfjpgnacofkipaaDoorLv
import Derived.Shelf.Strings.Split
import Derived.Shelf.Strings.OnBuilder
set_option linter.unusedSimpArgs false
set_option linter.unusedVariables false
namespace Go.Proofs.YtfjpgnacofkipaaDoor
open Go Go.Fi Go.RowKit Go.Shelf
set_option maxRecDepth 20000

/-! ### texts, by the shelf -/
def splitRen : Go.Shelf.Ren := ⟨fun | 138 => 74 | 143 => 75 | 146 => 25 | 195 => 81 | 197 => 82 | 217 => 86 | 218 => 83 | 219 => 84 | 221 => 51 | 224 => 88 | 225 => 87 | 260 => 85 | 266 => 90 | 267 => 89 | 268 => 73 | 314 => 91 | n => n, fun | 31 => 22 | 46 => 119 | 51 => 138 | 105 => 130 | 119 => 134 | 138 => 136 | 139 => 137 | 146 => 139 | n => n, fun | 1 => 0 | 3 => 1 | 4 => 2 | n => n⟩
theorem splitLays_n146 : Lays.n146 Tryd.prog splitRen where
  mixed := by kernel_rfl
  f138 := Tryd.func74.trans (congrArg some (by kernel_rfl))
  f143 := Tryd.func75.trans (congrArg some (by kernel_rfl))
  f146 := Tryd.func25.trans (congrArg some (by kernel_rfl))
  f195 := Tryd.func81.trans (congrArg some (by kernel_rfl))
  f197 := Tryd.func82.trans (congrArg some (by kernel_rfl))
  f217 := Tryd.func86.trans (congrArg some (by kernel_rfl))
  f218 := Tryd.func83.trans (congrArg some (by kernel_rfl))
  f219 := Tryd.func84.trans (congrArg some (by kernel_rfl))
  f221 := Tryd.func51.trans (congrArg some (by kernel_rfl))
  f224 := Tryd.func88.trans (congrArg some (by kernel_rfl))
  f225 := Tryd.func87.trans (congrArg some (by kernel_rfl))
  f260 := Tryd.func85.trans (congrArg some (by kernel_rfl))
  f266 := Tryd.func90.trans (congrArg some (by kernel_rfl))
  f267 := Tryd.func89.trans (congrArg some (by kernel_rfl))
  f268 := Tryd.func73.trans (congrArg some (by kernel_rfl))
  f314 := Tryd.func91.trans (congrArg some (by kernel_rfl))
  t0 := Tryd.underlying0
  a0 := Tryd.isAgg0
  z0 := Tryd.sizeOf0
  v0 := Tryd.zeroValue0
  t3 := Tryd.underlying3
  a3 := Tryd.isAgg3
  z3 := Tryd.sizeOf3
  v3 := Tryd.zeroValue3
  t4 := Tryd.underlying4
  a4 := Tryd.isAgg4
  z4 := Tryd.sizeOf4
  v4 := Tryd.zeroValue4
  t5 := Tryd.underlying5
  a5 := Tryd.isAgg5
  z5 := Tryd.sizeOf5
  v5 := Tryd.zeroValue5
  t9 := Tryd.underlying9
  a9 := Tryd.isAgg9
  z9 := Tryd.sizeOf9
  v9 := Tryd.zeroValue9
  t21 := Tryd.underlying21
  a21 := Tryd.isAgg21
  z21 := Tryd.sizeOf21
  v21 := Tryd.zeroValue21
  t31 := Tryd.underlying22
  a31 := Tryd.isAgg22
  z31 := Tryd.sizeOf22
  v31 := Tryd.zeroValue22
  t46 := Tryd.underlying119
  a46 := Tryd.isAgg119
  z46 := Tryd.sizeOf119
  v46 := Tryd.zeroValue119
  t51 := Tryd.underlying138
  a51 := Tryd.isAgg138
  z51 := Tryd.sizeOf138
  v51 := Tryd.zeroValue138
  t105 := Tryd.underlying130
  a105 := Tryd.isAgg130
  z105 := Tryd.sizeOf130
  v105 := Tryd.zeroValue130
  t119 := Tryd.underlying134
  a119 := Tryd.isAgg134
  z119 := Tryd.sizeOf134
  t138 := Tryd.underlying136
  a138 := Tryd.isAgg136
  z138 := Tryd.sizeOf136
  v138 := Tryd.zeroValue136
  t139 := Tryd.underlying137
  a139 := Tryd.isAgg137
  z139 := Tryd.sizeOf137
  v139 := Tryd.zeroValue137
  t146 := Tryd.underlying139
  a146 := Tryd.isAgg139
  z146 := Tryd.sizeOf139
  v146 := Tryd.zeroValue139
  g1 := by first | kernel_rfl | decide
  g3 := by first | kernel_rfl | decide
  g4 := by first | kernel_rfl | decide

def joinRen : Go.Shelf.Ren := ⟨fun | 156 => 22 | 165 => 47 | 166 => 48 | 169 => 49 | 240 => 65 | 241 => 66 | 276 => 78 | 277 => 79 | n => n, fun | 31 => 22 | 37 => 93 | 70 => 92 | 72 => 95 | 75 => 98 | 76 => 99 | 80 => 101 | 127 => 120 | 164 => 126 | n => n, fun n => n⟩
theorem joinLays_n156 : Lays.n156 Tryd.prog joinRen where
  mixed := by kernel_rfl
  f156 := Tryd.func22.trans (congrArg some (by kernel_rfl))
  f165 := Tryd.func47.trans (congrArg some (by kernel_rfl))
  f166 := Tryd.func48.trans (congrArg some (by kernel_rfl))
  f169 := Tryd.func49.trans (congrArg some (by kernel_rfl))
  f240 := Tryd.func65.trans (congrArg some (by kernel_rfl))
  f241 := Tryd.func66.trans (congrArg some (by kernel_rfl))
  f276 := Tryd.func78.trans (congrArg some (by kernel_rfl))
  f277 := Tryd.func79.trans (congrArg some (by kernel_rfl))
  t0 := Tryd.underlying0
  a0 := Tryd.isAgg0
  z0 := Tryd.sizeOf0
  v0 := Tryd.zeroValue0
  t3 := Tryd.underlying3
  a3 := Tryd.isAgg3
  z3 := Tryd.sizeOf3
  v3 := Tryd.zeroValue3
  t4 := Tryd.underlying4
  a4 := Tryd.isAgg4
  z4 := Tryd.sizeOf4
  v4 := Tryd.zeroValue4
  t9 := Tryd.underlying9
  a9 := Tryd.isAgg9
  z9 := Tryd.sizeOf9
  v9 := Tryd.zeroValue9
  t20 := Tryd.underlying20
  a20 := Tryd.isAgg20
  z20 := Tryd.sizeOf20
  v20 := Tryd.zeroValue20
  t31 := Tryd.underlying22
  a31 := Tryd.isAgg22
  z31 := Tryd.sizeOf22
  v31 := Tryd.zeroValue22
  t37 := Tryd.underlying93
  a37 := Tryd.isAgg93
  z37 := Tryd.sizeOf93
  v37 := Tryd.zeroValue93
  t70 := Tryd.underlying92
  a70 := Tryd.isAgg92
  z70 := Tryd.sizeOf92
  v70 := Tryd.zeroValue92
  t72 := Tryd.underlying95
  a72 := Tryd.isAgg95
  z72 := Tryd.sizeOf95
  v72 := Tryd.zeroValue95
  t75 := Tryd.underlying98
  a75 := Tryd.isAgg98
  z75 := Tryd.sizeOf98
  v75 := Tryd.zeroValue98
  t76 := Tryd.underlying99
  a76 := Tryd.isAgg99
  z76 := Tryd.sizeOf99
  v76 := Tryd.zeroValue99
  t127 := Tryd.underlying120
  a127 := Tryd.isAgg120
  z127 := Tryd.sizeOf120
  v127 := Tryd.zeroValue120
  t164 := Tryd.underlying126
  a164 := Tryd.isAgg126
  z164 := Tryd.sizeOf126
  v164 := Tryd.zeroValue126
theorem joinBuilder_Extra : Builder.Extra Tryd.prog joinRen where
  sizeBuilder := by first | kernel_rfl | decide
  liesBuilder := by first | kernel_rfl | decide
  t5 := Tryd.underlying5
  a5 := Tryd.isAgg5
  z5 := Tryd.sizeOf5
  v5 := Tryd.zeroValue5
  infoByte := by first | kernel_rfl | decide
  cellsByte := by first | kernel_rfl | decide
  sizeByte := by first | kernel_rfl | decide
  neB5 := by first | kernel_rfl | decide

theorem maxLen_cell {g : Nat} (hg : Tryd.prog.globalNamed "internal/bytealg.MaxLen" = some g) (w : World) (h : LaidW.ok w) : ∃ m, w.cell? ⟨g, 0, none⟩ = some (.int .i64 m) := by
  obtain ⟨m, hm⟩ := (show LaidOk w from h).maxLen
  exact ⟨m, by simpa using World.var?_cell hg hm 0⟩
theorem splitT_c (s sep : ByteArray) (hs : s.size < 4294967281) (h1 : 1 ≤ sep.size) : RealCall Tryd.prog 25 [.str s, .str sep] (.sl (pieces s sep).length (strP (pieces s sep))) true :=
  split_real splitLays_n146 ⟨_, Tryd.func25, by kernel_rfl, by kernel_rfl⟩ (by kernel_rfl) (maxLen_cell (by kernel_rfl)) s sep hs h1
theorem join_c (xs : List ByteArray) (sep : ByteArray) (hN : xs.length ≤ 1000000000) (hlen : (Lib.join (xs.map (·.data.toList)) sep.data.toList).length ≤ 140737488355328) : RealCall Tryd.prog 22 [.sl xs.length (strP xs), .str sep] (.str (joinB xs sep)) true :=
  join_real joinLays_n156 joinBuilder_Extra ⟨_, Tryd.func22, by kernel_rfl, by kernel_rfl⟩ xs sep hN hlen
theorem strP_flat : ∀ l : List ByteArray, flatL (strP l) = true
  | [] => rfl
  | x :: r => by have := strP_flat r; simpa [strP, flatL, flat] using this
def stA (l : List ByteArray) : List AV := (strP l).map (.w false false)
@[simp] theorem strP_len (l : List ByteArray) : (strP l).length = l.length := by simp [strP]
@[simp] theorem strP_nil : strP [] = [] := rfl
@[simp] theorem strP_get (l : List ByteArray) (k : Nat) (h : k < l.length) : nthP (strP l) k = .str (nth l k) := nthP_map _ l k h
@[simp] theorem strP_take (l : List ByteArray) (k : Nat) : (strP l).take k = strP (l.take k) := by simp [strP, List.map_take]
@[simp] theorem strP_drop (l : List ByteArray) (k : Nat) : (strP l).drop k = strP (l.drop k) := by simp [strP, List.map_drop]
@[simp] theorem stA_len (l : List ByteArray) : (stA l).length = l.length := by simp [stA]
@[simp] theorem stA_nil : stA [] = [] := rfl
@[simp] theorem stA_snoc (a : List ByteArray) (x : ByteArray) : stA a ++ [.w false false (.str x)] = stA (a ++ [x]) := by simp [stA, strP]
@[simp] theorem stA_lt (l : List ByteArray) (n : Nat) : AV.lt.ltL n (stA l) = true := ltL_map n false false _
@[simp] theorem stA_self {D : List Nat} {h : Heap} {n n' : Nat} (l : List ByteArray) : cellsLe D h n n' (stA l) (stA l) = True := eq_true (cellsLe_w false false _)
@[simp high] theorem stA_frz (h : Heap) (d : Nat) (l : List ByteArray) : (stA l).mapM (frz h d) = some (strP l) := mapM_frz h d false false _
@[simp high] theorem stA_fresh (h : Heap) (d : Nat) (l : List ByteArray) : (stA l).all (freshA h d) = true := all_flat h d false false _ (strP_flat l)
/-! ### the reference's cut of a text at a byte -/
theorem byte_eq (s : ByteArray) (k : Nat) (c : UInt8) : decide ((byteAt s k : Int) = (c.toNat : Int)) = decide (s.data.toList.getD k 0 = c) := by
  unfold byteAt
  by_cases h : s.data.toList.getD k 0 = c
  · rw [h]; simp
  · rw [decide_eq_false h, decide_eq_false]
    intro e
    exact h (UInt8.toNat_inj.1 (by omega))
set_option maxHeartbeats 4000000 in
theorem rCut_c (s : ByteArray) (c : UInt8) (hs : s.size < 1000000) : RealCall Tryd.prog 31 [.str s, .int .u8 c.toNat] (.sl (pieces s ⟨#[c]⟩).length (strP (pieces s ⟨#[c]⟩))) true := by
  rw [cut_pieces]
  have e0 : cutFr c s 0 = 0 := rfl
  have e1 : cutCl c s 0 = [] := rfl
  refine realcall_intro Tryd.func31 (by kernel_rfl) rfl (Nat.le_of_ble_eq_true (by kernel_rfl)) ?_
  simp only [Tryd.results31, Tryd.ntmps31]
  repeat' (first | (with_reducible first | refine awp_seq ?_ | refine awp_blockS ?_ | refine awp_blockC ?_ | refine awp_blockR ?_ | refine awp_skip ?_ | refine awp_ret ?_ | refine awp_exit ?_ | refine awp_region ?_ | refine awp_condM ?_ | refine And.intro ?_ ?_ | apply gQ_merge | apply gE_merge | exact EqV_w | exact EqE_w | exact EqV_ptr | exact EqE_ptr | exact EqV_msl | exact EqE_msl | exact EqV_agg | exact EqE_agg | exact EqV_fn | exact EqE_fn | exact EqV_gd | exact EqE_gd | refine gM_splitN ?_ ?_ | refine gM_split ?_ ?_ |  refine condM_splitDN ?_ ?_ | refine condM_splitD ?_ ?_ | refine condM_splitN ?_ ?_ | refine condM_split ?_ ?_ | refine condM_any ?_ ?_ | intro _) | (simp [*, repl]))
  refine awp_for4 1 (fun (k : Nat) => k ≤ s.size) [0, 1] (fun (k : Nat) => [(7, .w false false (.int .i64 k)), (6, .w false false (.int .i64 (cutFr c s k))), (5, .msl 0 (cutCl c s k).length 1 0 (cutCl c s k).length)]) [] (fun (k : Nat) => [(0, stA (cutCl c s k))]) (fun (k : Nat) => s.size - k) (fun (_u : Unit) => True) [0] (fun (_u : Unit) => [(6, .w false false (.int .i64 (cutFr c s s.size))), (5, .msl 0 (cutCl c s s.size).length 1 0 (cutCl c s s.size).length)]) [] (fun (_u : Unit) => [(0, stA (cutCl c s s.size))]) (0) (Nat.zero_le _) (le_gen [] (by simp [e0, e1, stA, strP]) (by simp [e0, e1, stA, strP])) (fun k hk => ?_) (fun _u hf => ?_)
  · clear e0 e1
    by_cases hlt : k < s.size
    · have hltI : (k : Int) < (s.size : Int) := by omega
      have hf := cutFr_le c s k
      have hcl := cutCl_len c s k
      have hfI : (cutFr c s k : Int) ≤ (k : Int) := by omega
      have y1 := cutFr_succ c s k
      have y2 := cutCl_succ c s k
      have hbe := byte_eq s k c
      by_cases hc : s.data.toList.getD k 0 = c
      · rw [if_pos hc] at y1 y2
        rw [decide_eq_true hc] at hbe
        have hb := of_decide_eq_true hbe
        have k1 := keep y1
        have k2 := keep y2
        clear hbe hc y1 y2
        generalize cutFr c s k = f at *
        generalize cutCl c s k = L at *
        repeat' (first | (with_reducible first | refine awp_seq ?_ | refine awp_blockS ?_ | refine awp_blockC ?_ | refine awp_blockR ?_ | refine awp_skip ?_ | refine awp_ret ?_ | refine awp_exit ?_ | refine awp_region ?_ | refine awp_condM ?_ | refine And.intro ?_ ?_ | apply gQ_merge | apply gE_merge | exact EqV_w | exact EqE_w | exact EqV_ptr | exact EqE_ptr | exact EqV_msl | exact EqE_msl | exact EqV_agg | exact EqE_agg | exact EqV_fn | exact EqE_fn | exact EqV_gd | exact EqE_gd | refine gM_splitN ?_ ?_ | refine gM_split ?_ ?_ |  refine condM_splitDN ?_ ?_ | refine condM_splitD ?_ ?_ | refine condM_splitN ?_ ?_ | refine condM_split ?_ ?_ | refine condM_any ?_ ?_ | intro _) | (simp [*, hlt, hltI, hb]))
        all_goals try first | exact inI64 (by omega) (by omega) | omega
        all_goals (refine loopK_normal _ _ _ _ _ (k + 1) _ ?_ (by first | omega | (dsimp only; omega) | (simp; omega)) ?_; (· omega); (refine le_gen [] ?_ ?_ <;> first | trivial | (simp [*, (show cutFr c s (k + 1) = _ from k1), (show cutCl c s (k + 1) = _ from k2)]; done)))
      · rw [if_neg hc] at y1 y2
        rw [decide_eq_false hc] at hbe
        have hb := of_decide_eq_false hbe
        have k1 := keep y1
        have k2 := keep y2
        clear hbe hc y1 y2
        generalize cutFr c s k = f at *
        generalize cutCl c s k = L at *
        repeat' (first | (with_reducible first | refine awp_seq ?_ | refine awp_blockS ?_ | refine awp_blockC ?_ | refine awp_blockR ?_ | refine awp_skip ?_ | refine awp_ret ?_ | refine awp_exit ?_ | refine awp_region ?_ | refine awp_condM ?_ | refine And.intro ?_ ?_ | apply gQ_merge | apply gE_merge | exact EqV_w | exact EqE_w | exact EqV_ptr | exact EqE_ptr | exact EqV_msl | exact EqE_msl | exact EqV_agg | exact EqE_agg | exact EqV_fn | exact EqE_fn | exact EqV_gd | exact EqE_gd | refine gM_splitN ?_ ?_ | refine gM_split ?_ ?_ |  refine condM_splitDN ?_ ?_ | refine condM_splitD ?_ ?_ | refine condM_splitN ?_ ?_ | refine condM_split ?_ ?_ | refine condM_any ?_ ?_ | intro _) | (simp [*, hlt, hltI, hb]))
        all_goals try first | exact inI64 (by omega) (by omega) | omega
        all_goals (refine loopK_normal _ _ _ _ _ (k + 1) _ ?_ (by first | omega | (dsimp only; omega) | (simp; omega)) ?_; (· omega); (refine le_gen [] ?_ ?_ <;> first | trivial | (simp [*, (show cutFr c s (k + 1) = _ from k1), (show cutCl c s (k + 1) = _ from k2)]; done)))
    · have hke : k = s.size := by omega
      subst hke
      repeat' (first | (with_reducible first | refine awp_seq ?_ | refine awp_blockS ?_ | refine awp_blockC ?_ | refine awp_blockR ?_ | refine awp_skip ?_ | refine awp_ret ?_ | refine awp_exit ?_ | refine awp_region ?_ | refine awp_condM ?_ | refine And.intro ?_ ?_ | apply gQ_merge | apply gE_merge | exact EqV_w | exact EqE_w | exact EqV_ptr | exact EqE_ptr | exact EqV_msl | exact EqE_msl | exact EqV_agg | exact EqE_agg | exact EqV_fn | exact EqE_fn | exact EqV_gd | exact EqE_gd | refine gM_splitN ?_ ?_ | refine gM_split ?_ ?_ |  refine condM_splitDN ?_ ?_ | refine condM_splitD ?_ ?_ | refine condM_splitN ?_ ?_ | refine condM_split ?_ ?_ | refine condM_any ?_ ?_ | intro _) | (simp [*]))
      all_goals (refine finW_intro () ?_ ?_; (· trivial); (refine le_gen [] ?_ ?_ <;> first | trivial | (simp [*]; done)))
  · clear e0 e1 hf
    have hf := cutFr_le c s s.size
    have hcl := cutCl_len c s s.size
    generalize cutFr c s s.size = f at *
    generalize cutCl c s s.size = L at *
    have hfI : (f : Int) ≤ (s.size : Int) := by omega
    repeat' (first | (with_reducible first | refine awp_seq ?_ | refine awp_blockS ?_ | refine awp_blockC ?_ | refine awp_blockR ?_ | refine awp_skip ?_ | refine awp_ret ?_ | refine awp_exit ?_ | refine awp_region ?_ | refine awp_condM ?_ | refine And.intro ?_ ?_ | apply gQ_merge | apply gE_merge | exact EqV_w | exact EqE_w | exact EqV_ptr | exact EqE_ptr | exact EqV_msl | exact EqE_msl | exact EqV_agg | exact EqE_agg | exact EqV_fn | exact EqE_fn | exact EqV_gd | exact EqE_gd | refine gM_splitN ?_ ?_ | refine gM_split ?_ ?_ |  refine condM_splitDN ?_ ?_ | refine condM_splitD ?_ ?_ | refine condM_splitN ?_ ?_ | refine condM_split ?_ ?_ | refine condM_any ?_ ?_ | intro _) | (simp [*]))
    all_goals try first | exact inI64 (by omega) (by omega) | omega
end Go.Proofs.YtfjpgnacofkipaaDoor
namespace Go.Proofs.YtfjpgnacofkipaaDoor
open Go Go.Fi
set_option maxRecDepth 20000

/-! ### the text of a way -/
theorem take_len {α : Type} (l : List α) (k : Nat) (h : k ≤ l.length) : (l.take k).length = k := by rw [List.length_take]; omega
abbrev sp1 : ByteArray := ⟨#[32]⟩
def wayNm (n : Net) (w : List Int) : List ByteArray := w.map fun i => (nth n.roads i.toNat).name
@[simp] theorem wayNm_len (n : Net) (w : List Int) : (wayNm n w).length = w.length := by simp [wayNm]
@[simp] theorem wayNm_nil (n : Net) : wayNm n [] = [] := rfl
theorem wayNm_succ (n : Net) (w : List Int) (k : Nat) (h : k < w.length) : wayNm n (w.take (k + 1)) = wayNm n (w.take k) ++ [(nth n.roads (nth w k).toNat).name] := by
  rw [take_succ_nth w k h]; simp [wayNm]
theorem wayNm_mem {n : Net} {w : List Int} (hw : ∀ i, i < w.length → 0 ≤ nth w i ∧ nth w i < n.roads.length) {x : ByteArray} (hx : x ∈ wayNm n w) : ∃ k, k < n.roads.length ∧ x = (nth n.roads k).name := by
  obtain ⟨i, hi, rfl⟩ := List.mem_map.1 hx
  obtain ⟨j, hj, rfl⟩ := List.getElem_of_mem hi
  have := hw j hj
  have e : nth w j = w[j] := by simp [nth, List.getD_eq_getElem?_getD, List.getElem?_eq_getElem hj]
  rw [e] at this
  exact ⟨_, by omega, rfl⟩
def wayT (n : Net) (w : List Int) : ByteArray := joinB (wayNm n w) sp1
theorem wayT_size {n : Net} (h : NetOk n) (hr : ∀ k, k < n.roads.length → (nth n.roads k).name.size ≤ 1000000) {w : List Int} (hw : WayOk n w) (hl : w.length ≤ 200) : (wayT n w).size ≤ 300000000 := by
  have := joinB_size sp1 1000000 (wayNm n w) (fun x hx => by
    obtain ⟨k, hk, rfl⟩ := wayNm_mem hw.idx hx
    exact hr k hk)
  have h1 : sp1.size = 1 := rfl
  rw [wayNm_len, h1] at this
  have h2 : w.length * (1000000 + 1) ≤ 200 * (1000000 + 1) := Nat.mul_le_mul_right _ hl
  unfold wayT
  omega
set_option maxHeartbeats 4000000 in
theorem formatWay_ok (n : Net) (h : NetIn n) (w : List Int) (hl : w.length < 1000) (he : owE n w = 0) (ho : NetOk n) (hw : WayOk n w) (hl2 : w.length ≤ 200) : RealCall Tryd.prog 7 [aNet n, .sl w.length (ints w)] (.tup [.str (wayT n w), .int .i64 0]) true := by
  have co := openWay_c n h w hl
  rw [he] at co
  have hj := wayT_size ho (fun k hk => Nat.le_of_lt (h.rs k hk)) hw hl2
  have cj := join_c (wayNm n w) sp1 (by simp; omega) (by
    have : (wayT n w).size = (Lib.join ((wayNm n w).map (·.data.toList)) sp1.data.toList).length := by
      show (joinB (wayNm n w) sp1).data.size = _
      simp [joinB]
    omega)
  rw [wayNm_len] at cj
  have hx := hw.idx
  have e0 : wayNm n (w.take 0) = [] := rfl
  have kt := keep (show wayT n w = joinB (wayNm n w) sp1 from rfl)
  clear h ho hw hj he
  unfold aNet cNet at *
  refine realcall_intro Tryd.func7 (by kernel_rfl) rfl (Nat.le_of_ble_eq_true (by kernel_rfl)) ?_
  simp only [Tryd.results7, Tryd.ntmps7]
  repeat' (first | (with_reducible first | refine awp_seq ?_ | refine awp_blockS ?_ | refine awp_blockC ?_ | refine awp_blockR ?_ | refine awp_skip ?_ | refine awp_ret ?_ | refine awp_exit ?_ | refine awp_region ?_ | refine awp_condM ?_ | refine And.intro ?_ ?_ | apply gQ_merge | apply gE_merge | exact EqV_w | exact EqE_w | exact EqV_ptr | exact EqE_ptr | exact EqV_msl | exact EqE_msl | exact EqV_agg | exact EqE_agg | exact EqV_fn | exact EqE_fn | exact EqV_gd | exact EqE_gd | refine gM_splitN ?_ ?_ | refine gM_split ?_ ?_ |  refine condM_splitDN ?_ ?_ | refine condM_splitD ?_ ?_ | refine condM_splitN ?_ ?_ | refine condM_split ?_ ?_ | refine condM_any ?_ ?_ | refine cw (co) ?_ | intro _) | (simp [*]) | (refine cw_eq (co) ?_ ?_; (· (simp [*]; done))))
  refine awp_for4 3 (fun (k : Nat) => k ≤ w.length) [6, 20, 21] (fun (k : Nat) => [(22, .w false false (.int .i64 k)), (8, .msl 2 k 1 0 k)]) [0, 1] (fun (k : Nat) => [(2, stA (wayNm n (w.take k)))]) (fun (k : Nat) => w.length - k) (fun (_u : Unit) => True) [] (fun (_u : Unit) => [(8, .msl 2 w.length 1 0 w.length)]) [] (fun (_u : Unit) => [(2, stA (wayNm n w))]) (0) (Nat.zero_le _) (le_gen [] (by simp [e0, stA, strP]) (by simp [e0, stA, strP])) (fun k hk => ?_) (fun _u hf => ?_)
  · clear e0
    by_cases hlt : k < w.length
    · have q := hx k hlt
      have q1 : (nth w k).toNat < n.roads.length := by omega
      have y := keep (wayNm_succ n w k hlt)
      have hlen : (w.take k).length = k := take_len _ _ hk
      clear hx
      generalize hrd : nth n.roads (nth w k).toNat = r at *
      repeat' (first | (with_reducible first | refine awp_seq ?_ | refine awp_blockS ?_ | refine awp_blockC ?_ | refine awp_blockR ?_ | refine awp_skip ?_ | refine awp_ret ?_ | refine awp_exit ?_ | refine awp_region ?_ | refine awp_condM ?_ | refine And.intro ?_ ?_ | apply gQ_merge | apply gE_merge | exact EqV_w | exact EqE_w | exact EqV_ptr | exact EqE_ptr | exact EqV_msl | exact EqE_msl | exact EqV_agg | exact EqE_agg | exact EqV_fn | exact EqE_fn | exact EqV_gd | exact EqE_gd | refine gM_splitN ?_ ?_ | refine gM_split ?_ ?_ |  refine condM_splitDN ?_ ?_ | refine condM_splitD ?_ ?_ | refine condM_splitN ?_ ?_ | refine condM_split ?_ ?_ | refine condM_any ?_ ?_ | intro _) | (simp [*, hlt, q1, hrd, hlen, cRoad]))
      all_goals try first | exact inI64 (by omega) (by omega) | omega
      all_goals (refine loopK_normal _ _ _ _ _ (k + 1) _ ?_ (by first | omega | (dsimp only; omega) | (simp; omega)) ?_; (· omega); (refine le_gen [] ?_ ?_ <;> first | trivial | (simp [*, (show wayNm n (w.take (k + 1)) = _ from y), hlen]; done)))
    · have hke : k = w.length := by omega
      subst hke
      repeat' (first | (with_reducible first | refine awp_seq ?_ | refine awp_blockS ?_ | refine awp_blockC ?_ | refine awp_blockR ?_ | refine awp_skip ?_ | refine awp_ret ?_ | refine awp_exit ?_ | refine awp_region ?_ | refine awp_condM ?_ | refine And.intro ?_ ?_ | apply gQ_merge | apply gE_merge | exact EqV_w | exact EqE_w | exact EqV_ptr | exact EqE_ptr | exact EqV_msl | exact EqE_msl | exact EqV_agg | exact EqE_agg | exact EqV_fn | exact EqE_fn | exact EqV_gd | exact EqE_gd | refine gM_splitN ?_ ?_ | refine gM_split ?_ ?_ |  refine condM_splitDN ?_ ?_ | refine condM_splitD ?_ ?_ | refine condM_splitN ?_ ?_ | refine condM_split ?_ ?_ | refine condM_any ?_ ?_ | intro _) | (simp [*]))
      all_goals (refine finW_intro () ?_ ?_; (· trivial); (refine le_gen [] ?_ ?_ <;> first | trivial | (simp [*, List.take_length]; done)))
  · clear e0
    repeat' (first | (with_reducible first | refine awp_seq ?_ | refine awp_blockS ?_ | refine awp_blockC ?_ | refine awp_blockR ?_ | refine awp_skip ?_ | refine awp_ret ?_ | refine awp_exit ?_ | refine awp_region ?_ | refine awp_condM ?_ | refine And.intro ?_ ?_ | apply gQ_merge | apply gE_merge | exact EqV_w | exact EqE_w | exact EqV_ptr | exact EqE_ptr | exact EqV_msl | exact EqE_msl | exact EqV_agg | exact EqE_agg | exact EqV_fn | exact EqE_fn | exact EqV_gd | exact EqE_gd | refine gM_splitN ?_ ?_ | refine gM_split ?_ ?_ |  refine condM_splitDN ?_ ?_ | refine condM_splitD ?_ ?_ | refine condM_splitN ?_ ?_ | refine condM_split ?_ ?_ | refine condM_any ?_ ?_ | refine cw (cj) ?_ | intro _) | (simp [*]) | (refine cw_eq (cj) ?_ ?_; (· (simp [*]; done))))
    all_goals first | trivial | (rw [show wayT n w = _ from kt]; trivial) | skip
theorem formatWay_bad (n : Net) (h : NetIn n) (w : List Int) (hl : w.length < 1000) (he : owE n w ≠ 0) : RealCall Tryd.prog 7 [aNet n, .sl w.length (ints w)] (.tup [.str ⟨#[]⟩, .int .i64 (owE n w)]) true := by
  have co := openWay_c n h w hl
  generalize owE n w = e at *
  unfold aNet cNet at *
  refine realcall_intro Tryd.func7 (by kernel_rfl) rfl (Nat.le_of_ble_eq_true (by kernel_rfl)) ?_
  simp only [Tryd.results7, Tryd.ntmps7]
  repeat' (first | (with_reducible first | refine awp_seq ?_ | refine awp_blockS ?_ | refine awp_blockC ?_ | refine awp_blockR ?_ | refine awp_skip ?_ | refine awp_ret ?_ | refine awp_exit ?_ | refine awp_region ?_ | refine awp_condM ?_ | refine And.intro ?_ ?_ | apply gQ_merge | apply gE_merge | exact EqV_w | exact EqE_w | exact EqV_ptr | exact EqE_ptr | exact EqV_msl | exact EqE_msl | exact EqV_agg | exact EqE_agg | exact EqV_fn | exact EqE_fn | exact EqV_gd | exact EqE_gd | refine gM_splitN ?_ ?_ | refine gM_split ?_ ?_ |  refine condM_splitDN ?_ ?_ | refine condM_splitD ?_ ?_ | refine condM_splitN ?_ ?_ | refine condM_split ?_ ?_ | refine condM_any ?_ ?_ | refine cw (co) ?_ | intro _) | (simp [*, he]) | (refine cw_eq (co) ?_ ?_; (· (simp [*]; done))))
/-- the reference's text -/
def accT (l : List ByteArray) : Nat → ByteArray
  | 0 => ⟨#[]⟩
  | k + 1 => (if 0 < k then accT l k ++ sp1 else accT l k) ++ nth l k
@[simp] theorem accT_zero (l : List ByteArray) : accT l 0 = ⟨#[]⟩ := rfl
theorem accT_join (l : List ByteArray) : ∀ k, k ≤ l.length → accT l k = joinB (l.take k) sp1
  | 0, _ => by rw [List.take_zero, joinB_nil]; rfl
  | 1, h => by
    have : l.take 1 = [nth l 0] := by
      cases l with
      | nil => simp at h
      | cons x r => simp
    rw [this, joinB_one]
    simp [accT]
    exact ba_ext (by simp)
  | k + 2, h => by
    have hne : l.take (k + 1) ≠ [] := by
      intro e
      have := congrArg List.length e
      rw [take_len _ _ (by omega)] at this
      simp at this
    rw [take_succ_nth l (k + 1) (by omega), joinB_snoc _ _ _ hne, ← accT_join l (k + 1) (by omega)]
    show (if 0 < k + 1 then accT l (k + 1) ++ sp1 else accT l (k + 1)) ++ nth l (k + 1) = _
    rw [if_pos (by omega)]
theorem ba_join_size (l : List ByteArray) (k : Nat) (h : k ≤ l.length) (hm : ∀ x ∈ l, x.size ≤ 1000000) : (accT l k).size ≤ k * 1000001 := by
  rw [accT_join l k h]
  have := joinB_size sp1 1000000 (l.take k) (fun x hx => hm x (List.mem_of_mem_take hx))
  have h1 : sp1.size = 1 := rfl
  rw [take_len _ _ h, h1] at this
  omega
set_option maxHeartbeats 4000000 in
theorem rFormatWay_c (n : Net) (h : NetIn n) (w : List Int) (hw : WayOk n w) (hl2 : w.length ≤ 200) : RealCall Tryd.prog 15 [aNet n, .sl w.length (ints w)] (.str (wayT n w)) true := by
  have hx := hw.idx
  have hm : ∀ x ∈ wayNm n w, x.size ≤ 1000000 := fun x hx' => by
    obtain ⟨k, hk, rfl⟩ := wayNm_mem hx hx'
    exact Nat.le_of_lt (h.rs k hk)
  have ef := keep (accT_join (wayNm n w) w.length (by simp))
  have hr := h.rs
  have hbd := fun k hk => ba_join_size (wayNm n w) k hk hm
  have kT := keep (show accT (wayNm n w) w.length = wayT n w by rw [show accT (wayNm n w) w.length = _ from ef, List.take_of_length_le (by simp)]; rfl)
  clear h hw hm ef
  have e0 : accT (wayNm n w) 0 = ⟨#[]⟩ := rfl
  unfold aNet cNet
  refine realcall_intro Tryd.func15 (by kernel_rfl) rfl (Nat.le_of_ble_eq_true (by kernel_rfl)) ?_
  simp only [Tryd.results15, Tryd.ntmps15]
  repeat' (first | (with_reducible first | refine awp_seq ?_ | refine awp_blockS ?_ | refine awp_blockC ?_ | refine awp_blockR ?_ | refine awp_skip ?_ | refine awp_ret ?_ | refine awp_exit ?_ | refine awp_region ?_ | refine awp_regionD (id := 7) 11 mixed (by decide +kernel) ?_ | refine awp_condM ?_ | refine And.intro ?_ ?_ | apply gQ_merge | apply gE_merge | exact EqV_w | exact EqE_w | exact EqV_ptr | exact EqE_ptr | exact EqV_msl | exact EqE_msl | exact EqV_agg | exact EqE_agg | exact EqV_fn | exact EqE_fn | exact EqV_gd | exact EqE_gd | refine gM_splitN ?_ ?_ | refine gM_split ?_ ?_ |  refine condM_splitDN ?_ ?_ | refine condM_splitD ?_ ?_ | refine condM_splitN ?_ ?_ | refine condM_split ?_ ?_ | refine condM_any ?_ ?_ | intro _) | (simp [*]))
  refine awp_for3 (fun (k : Nat) => k ≤ w.length) [1, 2] (fun (k : Nat) => [(6, .w false false (.int .i64 k)), (5, .w false false (.str (accT (wayNm n w) k)))]) [0] (fun (k : Nat) => []) (fun (k : Nat) => w.length - k) (fun (_u : Unit) => True) [] (fun (_u : Unit) => [(5, .w false false (.str (wayT n w)))]) [] (fun (_u : Unit) => []) (0) (Nat.zero_le _) (by simp) (by simp) (fun k hk => ?_) (fun _u hf => ?_)
  · clear e0
    by_cases hlt : k < w.length
    · have q := hx k hlt
      have q1 : (nth w k).toNat < n.roads.length := by omega
      have b1 := hbd k (by simp; omega)
      have b2 := hr _ q1
      have y : accT (wayNm n w) (k + 1) = (if 0 < k then accT (wayNm n w) k ++ sp1 else accT (wayNm n w) k) ++ nth (wayNm n w) k := rfl
      have y2 : nth (wayNm n w) k = (nth n.roads (nth w k).toNat).name := by
        unfold wayNm; simp [nth, List.getD_eq_getElem?_getD, List.getElem?_map, List.getElem?_eq_getElem hlt]
      rw [y2] at y
      have hs1 : sp1.size = 1 := rfl
      clear hx hbd hr y2
      by_cases h0 : 0 < k
      · rw [if_pos h0] at y
        have ky := keep y
        clear y
        generalize accT (wayNm n w) k = A at *
        generalize hrd : nth n.roads (nth w k).toNat = r at *
        have hA : A.size + 1 ≤ 1000000000000 := by omega
        have hB : A.size + 1 + r.name.size ≤ 1000000000000 := by omega
        repeat' (first | (with_reducible first | refine awp_seq ?_ | refine awp_blockS ?_ | refine awp_blockC ?_ | refine awp_blockR ?_ | refine awp_skip ?_ | refine awp_ret ?_ | refine awp_exit ?_ | refine awp_region ?_ | refine awp_regionD (id := 7) 11 mixed (by decide +kernel) ?_ | refine awp_condM ?_ | refine And.intro ?_ ?_ | apply gQ_merge | apply gE_merge | exact EqV_w | exact EqE_w | exact EqV_ptr | exact EqE_ptr | exact EqV_msl | exact EqE_msl | exact EqV_agg | exact EqE_agg | exact EqV_fn | exact EqE_fn | exact EqV_gd | exact EqE_gd | refine gM_splitN ?_ ?_ | refine gM_split ?_ ?_ |  refine condM_splitDN ?_ ?_ | refine condM_splitD ?_ ?_ | refine condM_splitN ?_ ?_ | refine condM_split ?_ ?_ | refine condM_any ?_ ?_ | intro _) | (simp [*, hlt, q1, hrd, h0, cRoad, sp1]))
        all_goals try first | exact inI64 (by omega) (by omega) | omega
        all_goals (refine loopK_normal _ _ _ _ _ (k + 1) _ ?_ (by first | omega | (dsimp only; omega) | (simp; omega)) ?_; (· omega); (refine le_of ?_ ?_ <;> first | trivial | (simp [*, (show accT (wayNm n w) (k + 1) = _ from ky), sp1]; done)))
      · rw [if_neg h0] at y
        have ky := keep y
        clear y
        generalize accT (wayNm n w) k = A at *
        generalize hrd : nth n.roads (nth w k).toNat = r at *
        have hB : A.size + r.name.size ≤ 1000000000000 := by omega
        repeat' (first | (with_reducible first | refine awp_seq ?_ | refine awp_blockS ?_ | refine awp_blockC ?_ | refine awp_blockR ?_ | refine awp_skip ?_ | refine awp_ret ?_ | refine awp_exit ?_ | refine awp_region ?_ | refine awp_regionD (id := 7) 11 mixed (by decide +kernel) ?_ | refine awp_condM ?_ | refine And.intro ?_ ?_ | apply gQ_merge | apply gE_merge | exact EqV_w | exact EqE_w | exact EqV_ptr | exact EqE_ptr | exact EqV_msl | exact EqE_msl | exact EqV_agg | exact EqE_agg | exact EqV_fn | exact EqE_fn | exact EqV_gd | exact EqE_gd | refine gM_splitN ?_ ?_ | refine gM_split ?_ ?_ |  refine condM_splitDN ?_ ?_ | refine condM_splitD ?_ ?_ | refine condM_splitN ?_ ?_ | refine condM_split ?_ ?_ | refine condM_any ?_ ?_ | intro _) | (simp [*, hlt, q1, hrd, h0, cRoad]))
        all_goals try first | exact inI64 (by omega) (by omega) | omega
        all_goals (refine loopK_normal _ _ _ _ _ (k + 1) _ ?_ (by first | omega | (dsimp only; omega) | (simp; omega)) ?_; (· omega); (refine le_of ?_ ?_ <;> first | trivial | (simp [*, (show accT (wayNm n w) (k + 1) = _ from ky)]; done)))
    · have hke : k = w.length := by omega
      subst hke
      have k2 := show accT (wayNm n w) w.length = wayT n w from kT
      clear hx hbd hr
      repeat' (first | (with_reducible first | refine awp_seq ?_ | refine awp_blockS ?_ | refine awp_blockC ?_ | refine awp_blockR ?_ | refine awp_skip ?_ | refine awp_ret ?_ | refine awp_exit ?_ | refine awp_region ?_ | refine awp_regionD (id := 7) 11 mixed (by decide +kernel) ?_ | refine awp_condM ?_ | refine And.intro ?_ ?_ | apply gQ_merge | apply gE_merge | exact EqV_w | exact EqE_w | exact EqV_ptr | exact EqE_ptr | exact EqV_msl | exact EqE_msl | exact EqV_agg | exact EqE_agg | exact EqV_fn | exact EqE_fn | exact EqV_gd | exact EqE_gd | refine gM_splitN ?_ ?_ | refine gM_split ?_ ?_ |  refine condM_splitDN ?_ ?_ | refine condM_splitD ?_ ?_ | refine condM_splitN ?_ ?_ | refine condM_split ?_ ?_ | refine condM_any ?_ ?_ | intro _) | (simp [*]))
      all_goals (refine finW_intro () ?_ ?_; (· trivial); (refine le_of ?_ ?_ <;> first | trivial | (simp [*, k2]; done)))
  · clear e0
    repeat' (first | (with_reducible first | refine awp_seq ?_ | refine awp_blockS ?_ | refine awp_blockC ?_ | refine awp_blockR ?_ | refine awp_skip ?_ | refine awp_ret ?_ | refine awp_exit ?_ | refine awp_region ?_ | refine awp_regionD (id := 7) 11 mixed (by decide +kernel) ?_ | refine awp_condM ?_ | refine And.intro ?_ ?_ | apply gQ_merge | apply gE_merge | exact EqV_w | exact EqE_w | exact EqV_ptr | exact EqE_ptr | exact EqV_msl | exact EqE_msl | exact EqV_agg | exact EqE_agg | exact EqV_fn | exact EqE_fn | exact EqV_gd | exact EqE_gd | refine gM_splitN ?_ ?_ | refine gM_split ?_ ?_ |  refine condM_splitDN ?_ ?_ | refine condM_splitD ?_ ?_ | refine condM_splitN ?_ ?_ | refine condM_split ?_ ?_ | refine condM_any ?_ ?_ | intro _) | (simp [*]))
end Go.Proofs.YtfjpgnacofkipaaDoor

