/- Contracts of functions for this claim: lemmas alone. -/
import Derived.Test.YtiialcomflggcaaDoorP12
import Derived.Test.YtiialcomflggcaaDoorP29
import Derived.Test.YtiialcomflggcaaDoorLv
import Derived.Test.YtiialcomflggcaaDoorLr
import Derived.Shelf.Strings.Split
set_option linter.unusedSimpArgs false
set_option linter.unusedVariables false
namespace Go.Proofs.YtiialcomflggcaaDoor
open Go Go.Fi
set_option maxRecDepth 20000

/-! ### texts of stops: what a text says, and that the text of a right plan is read back -/
abbrev sp1 : ByteArray := ⟨#[32]⟩
abbrev plus1 : ByteArray := ⟨#[43]⟩
abbrev minus1 : ByteArray := ⟨#[45]⟩
def tailB (w : ByteArray) : ByteArray := w.extract 1 w.size
def signB (w : ByteArray) : ByteArray := w.extract 0 1
def badW (w : ByteArray) : Bool := decide (w.size < 2) || (!decide (signB w = plus1) && !decide (signB w = minus1))
/-- the error of the k-th name -/
def nmE (rs : List Rider) (k : Nat) : Int := firstS [errUnless (nameB (nth rs k).name) 4, errUnless (!knownB (rs.take k) (nth rs k).name) 5]
def namesE (rs : List Rider) : Nat → Nat → Int
  | 0, _ => 0
  | n + 1, k => if nmE rs k = 0 then namesE rs n (k + 1) else nmE rs k
/-- the last rider of the first n with a name -/
def findR (rs : List Rider) (x : ByteArray) : Nat → Option Nat
  | 0 => none
  | n + 1 => if (nth rs n).name = x then some n else findR rs x n
def stopsL (rs : List Rider) : List ByteArray → Option (List Stop)
  | [] => some []
  | w :: ws => match findR rs (tailB w) rs.length with
    | none => none
    | some k => (stopsL rs ws).map fun l => ⟨(k : Int), decide (signB w = minus1)⟩ :: l
def parseS (rs : List Rider) (s : ByteArray) : List Stop × Int :=
  if 6 < rs.length then ([], 8)
  else if namesE rs rs.length 0 ≠ 0 then ([], namesE rs rs.length 0)
  else if s = ⟨#[]⟩ then ([], 0)
  else if (pieces s sp1).any badW = true then ([], 7)
  else match stopsL rs (pieces s sp1) with
    | none => ([], 6)
    | some l => (l, 0)
theorem namesE_ok {rs : List Rider} (h : ∀ k, k < rs.length → nmE rs k = 0) : ∀ n k, n + k = rs.length → namesE rs n k = 0
  | 0, _, _ => rfl
  | n + 1, k, e => by
    unfold namesE
    rw [if_pos (h k (by omega))]
    exact namesE_ok h n (k + 1) (by omega)
theorem findR_of {rs : List Rider} {x : ByteArray} {j : Nat} (hx : (nth rs j).name = x) : ∀ n, j < n → (∀ i, j < i → i < n → (nth rs i).name ≠ x) → findR rs x n = some j
  | 0, h, _ => by omega
  | n + 1, h, hd => by
    unfold findR
    by_cases e : n = j
    · subst e; rw [if_pos hx]
    · rw [if_neg (hd n (by omega) (by omega))]
      exact findR_of hx n (by omega) (fun i h1 h2 => hd i h1 (by omega))
section
variable {m : Grid} {p : Plan}
theorem PlanOk.name (ok : PlanOk m p) {k : Nat} (h : k < p.riders.length) : nameB (nth p.riders k).name = true ∧ knownB (p.riders.take k) (nth p.riders k).name = false := by
  have h1 := ok.riders k h
  unfold riderE at h1
  rw [firstS_all] at h1
  have a := (errU_zero (by decide)).1 (h1 _ (List.mem_cons_self ..))
  have b := (errU_zero (by decide)).1 (h1 _ (List.mem_cons_of_mem _ (List.mem_cons_self ..)))
  exact ⟨a, by simpa using b⟩
theorem PlanOk.names0 (ok : PlanOk m p) : namesE p.riders p.riders.length 0 = 0 := by
  refine namesE_ok (fun k hk => ?_) _ _ rfl
  obtain ⟨h1, h2⟩ := ok.name hk
  unfold nmE
  rw [h1, h2]
  rfl
theorem PlanOk.find (ok : PlanOk m p) {j : Nat} (h : j < p.riders.length) : findR p.riders (nth p.riders j).name p.riders.length = some j := by
  refine findR_of rfl _ h (fun i h1 h2 e => ?_)
  have h3 := (ok.name h2).2
  unfold knownB at h3
  have h4 : (p.riders.take i).any (fun o => decide (o.name = (nth p.riders i).name)) = true := by
    rw [List.any_eq_true]
    refine ⟨nth (p.riders.take i) j, nth_mem (by simp; omega), ?_⟩
    rw [nth_take _ _ _ h1, e]; simp
  rw [h4] at h3; cases h3
theorem okUpto_true (s : ByteArray) : ∀ n, okUpto s n = true → ∀ k, k < n → okB k (byteAt s k) = true
  | 0, _, k, hk => by omega
  | n + 1, h, k, hk => by
    unfold okUpto at h
    obtain ⟨h1, h2⟩ := Bool.and_eq_true_iff.1 h
    by_cases e : k = n
    · rw [e]; exact h2
    · exact okUpto_true s n h1 k (by omega)
theorem name_no32 {s : ByteArray} (h : nameB s = true) : (32 : UInt8) ∉ s.data.toList := by
  intro hin
  obtain ⟨k, hk, e⟩ := List.mem_iff_getElem.1 hin
  unfold nameB at h
  have h1 := (Bool.and_eq_true_iff.1 (Bool.and_eq_true_iff.1 h).1).1
  have hb := okUpto_true s s.size h1 k (by simpa using hk)
  have hbv : byteAt s k = 32 := by
    unfold byteAt
    rw [List.getD_eq_getElem?_getD, List.getElem?_eq_getElem hk, Option.getD_some, e]; rfl
  rw [hbv] at hb
  unfold okB at hb
  have hl : letterB 32 = false := by decide
  rw [hl] at hb
  simp at hb
theorem name_pos {s : ByteArray} (h : nameB s = true) : 1 ≤ s.size := by
  unfold nameB at h
  have := (Bool.and_eq_true_iff.1 (Bool.and_eq_true_iff.1 h).1).2
  have := of_decide_eq_true this
  omega
theorem word_sign (p : Plan) (s : Stop) : signB (wordOf p s) = if s.out = true then minus1 else plus1 := by
  unfold signB wordOf
  apply ByteArray.ext
  split <;> simp [ByteArray.data_extract, ByteArray.data_append]
theorem word_tail (p : Plan) (s : Stop) : tailB (wordOf p s) = (riderOf p s).name := by
  have key : ∀ (a : UInt8) (n : ByteArray), ((⟨#[a]⟩ : ByteArray) ++ n).extract 1 ((⟨#[a]⟩ : ByteArray) ++ n).size = n := by
    intro a n
    have e1 : (⟨#[a]⟩ : ByteArray).size = 1 := rfl
    rw [ByteArray.size_append, e1]
    apply ByteArray.ext
    rw [ByteArray.data_extract, ByteArray.data_append]
    apply Array.ext'
    rw [Array.toList_extract, Array.toList_append, List.extract_eq_take_drop]
    have e2 : (1 + n.size - 1) = n.data.toList.length := by
      rw [Nat.add_sub_cancel_left]; rfl
    rw [e2]
    simp
    exact List.take_of_length_le (Nat.le_of_eq rfl)
  unfold tailB wordOf
  split
  · exact key _ _
  · exact key _ _
/-- all riders of a right plan's stops are there: every stop has its word -/
theorem words_all {m : Grid} {p : Plan} (ok : PlanOk m p) : ∀ (l : List Stop), (∀ s ∈ l, s ∈ p.stops) → wordsF p l = l.map (wordOf p)
  | [], _ => rfl
  | s :: l, h => by
    have hs := h s (List.mem_cons_self ..)
    obtain ⟨k, hk, e⟩ := List.mem_iff_getElem.1 hs
    have h1 := (stopE_ok.1 (ok.stops k hk)).1
    have e2 : nth p.stops k = s := by simp [nth, List.getD_eq_getElem?_getD, List.getElem?_eq_getElem hk, e]
    rw [e2] at h1
    have hw : winB s.rider 0 ((p.riders.length : Int) - 1) = true := by rw [winB_iff]; omega
    unfold wordsF
    rw [if_pos hw, words_all ok l (fun x hx => h x (List.mem_cons_of_mem _ hx))]; rfl
theorem stops_rng {m : Grid} {p : Plan} (ok : PlanOk m p) {s : Stop} (hs : s ∈ p.stops) : ∃ j : Nat, s.rider = (j : Int) ∧ j < p.riders.length := by
  obtain ⟨k, hk, e⟩ := List.mem_iff_getElem.1 hs
  have h1 := (stopE_ok.1 (ok.stops k hk)).1
  have e2 : nth p.stops k = s := by simp [nth, List.getD_eq_getElem?_getD, List.getElem?_eq_getElem hk, e]
  rw [e2] at h1
  exact ⟨s.rider.toNat, by omega, by omega⟩
theorem rider_name {p : Plan} {s : Stop} {j : Nat} (h : s.rider = (j : Int)) : (riderOf p s).name = (nth p.riders j).name := by
  unfold riderOf; rw [h, Int.toNat_natCast]
theorem stopsL_words {m : Grid} {p : Plan} (ok : PlanOk m p) : ∀ (l : List Stop), (∀ s ∈ l, s ∈ p.stops) → stopsL p.riders (l.map (wordOf p)) = some l
  | [], _ => rfl
  | s :: l, h => by
    obtain ⟨j, hj, hjl⟩ := stops_rng ok (h s (List.mem_cons_self ..))
    have ih := stopsL_words ok l (fun x hx => h x (List.mem_cons_of_mem _ hx))
    rw [List.map_cons]
    unfold stopsL
    rw [word_tail, rider_name hj, ok.find hjl]
    dsimp only
    rw [ih, word_sign]
    obtain ⟨r, o⟩ := s
    dsimp only at hj
    subst hj
    cases o
    · rfl
    · rfl
/-- the text of a right plan is read back -/
theorem parse_format {m : Grid} {p : Plan} (ok : PlanOk m p) : parseS p.riders (formatS p) = (p.stops, 0) := by
  have hw := words_all ok p.stops (fun s h => h)
  unfold parseS formatS
  rw [hw, if_neg (by have := ok.rl; omega), if_neg (by rw [ok.names0]; simp)]
  have hns : ∀ w ∈ p.stops.map (wordOf p), (32 : UInt8) ∉ w.data.toList := by
    intro w hwm
    obtain ⟨s, hs, rfl⟩ := List.mem_map.1 hwm
    obtain ⟨j, hj, hjl⟩ := stops_rng ok hs
    have hn := name_no32 (ok.name hjl).1
    rw [← rider_name hj] at hn
    intro hin
    unfold wordOf at hin
    rw [ByteArray.data_append, Array.toList_append, List.mem_append] at hin
    rcases hin with hin | hin
    · revert hin; split <;> decide
    · exact hn hin
  have hbad : (p.stops.map (wordOf p)).any badW = false := by
    rw [List.any_eq_false]
    intro w hwm
    obtain ⟨s, hs, rfl⟩ := List.mem_map.1 hwm
    obtain ⟨j, hj, hjl⟩ := stops_rng ok hs
    have hn := name_pos (ok.name hjl).1
    rw [← rider_name hj] at hn
    have hsz : 2 ≤ (wordOf p s).size := by
      unfold wordOf
      rw [ByteArray.size_append]
      have e : (if s.out = true then (⟨#[45]⟩ : ByteArray) else ⟨#[43]⟩).size = 1 := by split <;> rfl
      omega
    unfold badW
    rw [word_sign, decide_eq_false (by omega : ¬ (wordOf p s).size < 2)]
    cases s.out <;> decide
  have hback := stopsL_words ok p.stops (fun s h => h)
  cases hst : p.stops with
  | nil => rw [List.map_nil, joinB_nil, if_pos rfl]
  | cons s l =>
    rw [← hst]
    have hne : p.stops.map (wordOf p) ≠ [] := by rw [hst]; simp
    have hp := pieces_join 32 _ hne hns
    have hz : joinB (p.stops.map (wordOf p)) sp1 ≠ ⟨#[]⟩ := by
      intro e
      rw [e] at hp
      have hq : pieces ⟨#[]⟩ (⟨#[32]⟩ : ByteArray) = [⟨#[]⟩] := by decide
      rw [hq] at hp
      rw [← hp] at hbad
      revert hbad; decide
    rw [if_neg hz, hp, if_neg (by rw [hbad]; decide), hback]
end
end Go.Proofs.YtiialcomflggcaaDoor
namespace Go.Proofs.YtiialcomflggcaaDoor
open Go Go.Fi Go.RowKit Go.Shelf
set_option maxRecDepth 20000

def splitRen : Go.Shelf.Ren := ⟨fun | 138 => 69 | 143 => 70 | 146 => 28 | 195 => 80 | 197 => 81 | 217 => 90 | 218 => 82 | 219 => 83 | 221 => 53 | 224 => 92 | 225 => 91 | 260 => 89 | 266 => 97 | 267 => 93 | 268 => 68 | 314 => 98 | n => n, fun | 31 => 61 | 46 => 125 | 51 => 159 | 105 => 143 | 119 => 155 | 138 => 157 | 139 => 158 | 146 => 160 | n => n, fun | 1 => 0 | 3 => 1 | 4 => 2 | n => n⟩
theorem splitLays_n146 : Lays.n146 Tryd.prog splitRen where
  mixed := by kernel_rfl
  f138 := Tryd.func69.trans (congrArg some (by kernel_rfl))
  f143 := Tryd.func70.trans (congrArg some (by kernel_rfl))
  f146 := Tryd.func28.trans (congrArg some (by kernel_rfl))
  f195 := Tryd.func80.trans (congrArg some (by kernel_rfl))
  f197 := Tryd.func81.trans (congrArg some (by kernel_rfl))
  f217 := Tryd.func90.trans (congrArg some (by kernel_rfl))
  f218 := Tryd.func82.trans (congrArg some (by kernel_rfl))
  f219 := Tryd.func83.trans (congrArg some (by kernel_rfl))
  f221 := Tryd.func53.trans (congrArg some (by kernel_rfl))
  f224 := Tryd.func92.trans (congrArg some (by kernel_rfl))
  f225 := Tryd.func91.trans (congrArg some (by kernel_rfl))
  f260 := Tryd.func89.trans (congrArg some (by kernel_rfl))
  f266 := Tryd.func97.trans (congrArg some (by kernel_rfl))
  f267 := Tryd.func93.trans (congrArg some (by kernel_rfl))
  f268 := Tryd.func68.trans (congrArg some (by kernel_rfl))
  f314 := Tryd.func98.trans (congrArg some (by kernel_rfl))
  t0 := Tryd.underlying0
  a0 := Tryd.isAgg0
  z0 := Tryd.sizeOf0
  v0 := Tryd.zeroValue0
  t3 := Tryd.underlying3
  a3 := Tryd.isAgg3
  z3 := Tryd.sizeOf3
  v3 := Tryd.zeroValue3
  t4 := Tryd.underlying4
  a4 := Tryd.isAgg4
  z4 := Tryd.sizeOf4
  v4 := Tryd.zeroValue4
  t5 := Tryd.underlying5
  a5 := Tryd.isAgg5
  z5 := Tryd.sizeOf5
  v5 := Tryd.zeroValue5
  t9 := Tryd.underlying9
  a9 := Tryd.isAgg9
  z9 := Tryd.sizeOf9
  v9 := Tryd.zeroValue9
  t21 := Tryd.underlying21
  a21 := Tryd.isAgg21
  z21 := Tryd.sizeOf21
  v21 := Tryd.zeroValue21
  t31 := Tryd.underlying61
  a31 := Tryd.isAgg61
  z31 := Tryd.sizeOf61
  v31 := Tryd.zeroValue61
  t46 := Tryd.underlying125
  a46 := Tryd.isAgg125
  z46 := Tryd.sizeOf125
  v46 := Tryd.zeroValue125
  t51 := Tryd.underlying159
  a51 := Tryd.isAgg159
  z51 := Tryd.sizeOf159
  v51 := Tryd.zeroValue159
  t105 := Tryd.underlying143
  a105 := Tryd.isAgg143
  z105 := Tryd.sizeOf143
  v105 := Tryd.zeroValue143
  t119 := Tryd.underlying155
  a119 := Tryd.isAgg155
  z119 := Tryd.sizeOf155
  t138 := Tryd.underlying157
  a138 := Tryd.isAgg157
  z138 := Tryd.sizeOf157
  v138 := Tryd.zeroValue157
  t139 := Tryd.underlying158
  a139 := Tryd.isAgg158
  z139 := Tryd.sizeOf158
  v139 := Tryd.zeroValue158
  t146 := Tryd.underlying160
  a146 := Tryd.isAgg160
  z146 := Tryd.sizeOf160
  v146 := Tryd.zeroValue160
  g1 := by first | kernel_rfl | decide
  g3 := by first | kernel_rfl | decide
  g4 := by first | kernel_rfl | decide
theorem maxLen_cell {g : Nat} (hg : Tryd.prog.globalNamed "internal/bytealg.MaxLen" = some g) (w : World) (h : LaidW.ok w) : ∃ m, w.cell? ⟨g, 0, none⟩ = some (.int .i64 m) := by
  obtain ⟨m, hm⟩ := (show LaidOk w from h).maxLen
  exact ⟨m, by simpa using World.var?_cell hg hm 0⟩
theorem splitT_c (s sep : ByteArray) (hs : s.size < 4294967281) (h1 : 1 ≤ sep.size) : RealCall Tryd.prog 28 [.str s, .str sep] (.sl (pieces s sep).length (strP (pieces s sep))) true :=
  split_real splitLays_n146 ⟨_, Tryd.func28, by kernel_rfl, by kernel_rfl⟩ (by kernel_rfl) (maxLen_cell (by kernel_rfl)) s sep hs h1
/-! ### the reference's cut of a text at a byte -/
theorem byte_eq (s : ByteArray) (k : Nat) (c : UInt8) : decide ((byteAt s k : Int) = (c.toNat : Int)) = decide (s.data.toList.getD k 0 = c) := by
  unfold byteAt
  by_cases h : s.data.toList.getD k 0 = c
  · rw [h]; simp
  · rw [decide_eq_false h, decide_eq_false]
    intro e
    exact h (UInt8.toNat_inj.1 (by omega))
set_option maxHeartbeats 4000000 in
theorem rCut_c (s : ByteArray) (c : UInt8) (hs : s.size < 1000000) : RealCall Tryd.prog 33 [.str s, .int .u8 c.toNat] (.sl (pieces s ⟨#[c]⟩).length (strP (pieces s ⟨#[c]⟩))) true := by
  rw [cut_pieces]
  have e0 : cutFr c s 0 = 0 := rfl
  have e1 : cutCl c s 0 = [] := rfl
  refine realcall_intro Tryd.func33 (by kernel_rfl) rfl (Nat.le_of_ble_eq_true (by kernel_rfl)) ?_
  simp only [Tryd.results33, Tryd.ntmps33]
  repeat' (first | (with_reducible first | refine awp_seq ?_ | refine awp_blockS ?_ | refine awp_blockC ?_ | refine awp_blockR ?_ | refine awp_skip ?_ | refine awp_ret ?_ | refine awp_exit ?_ | refine awp_region ?_ | refine awp_condM ?_ | refine And.intro ?_ ?_ | apply gQ_merge | apply gE_merge | exact EqV_w | exact EqE_w | exact EqV_ptr | exact EqE_ptr | exact EqV_msl | exact EqE_msl | exact EqV_agg | exact EqE_agg | exact EqV_fn | exact EqE_fn | exact EqV_gd | exact EqE_gd | refine gM_splitN ?_ ?_ | refine gM_split ?_ ?_ |  refine condM_splitDN ?_ ?_ | refine condM_splitD ?_ ?_ | refine condM_splitN ?_ ?_ | refine condM_split ?_ ?_ | refine condM_any ?_ ?_ | intro _) | (simp [*, repl]))
  refine awp_for4 1 (fun (k : Nat) => k ≤ s.size) [0, 1] (fun (k : Nat) => [(7, .w false false (.int .i64 k)), (6, .w false false (.int .i64 (cutFr c s k))), (5, .msl 0 (cutCl c s k).length 1 0 (cutCl c s k).length)]) [] (fun (k : Nat) => [(0, stA (cutCl c s k))]) (fun (k : Nat) => s.size - k) (fun (_u : Unit) => True) [0] (fun (_u : Unit) => [(6, .w false false (.int .i64 (cutFr c s s.size))), (5, .msl 0 (cutCl c s s.size).length 1 0 (cutCl c s s.size).length)]) [] (fun (_u : Unit) => [(0, stA (cutCl c s s.size))]) (0) (Nat.zero_le _) (le_gen [] (by simp [e0, e1, stA, strP]) (by simp [e0, e1, stA, strP])) (fun k hk => ?_) (fun _u hf => ?_)
  · clear e0 e1
    by_cases hlt : k < s.size
    · have hltI : (k : Int) < (s.size : Int) := by omega
      have hf := cutFr_le c s k
      have hcl := cutCl_len c s k
      have hfI : (cutFr c s k : Int) ≤ (k : Int) := by omega
      have y1 := cutFr_succ c s k
      have y2 := cutCl_succ c s k
      have hbe := byte_eq s k c
      by_cases hc : s.data.toList.getD k 0 = c
      · rw [if_pos hc] at y1 y2
        rw [decide_eq_true hc] at hbe
        have hb := of_decide_eq_true hbe
        have k1 := keep y1
        have k2 := keep y2
        clear hbe hc y1 y2
        generalize cutFr c s k = f at *
        generalize cutCl c s k = L at *
        repeat' (first | (with_reducible first | refine awp_seq ?_ | refine awp_blockS ?_ | refine awp_blockC ?_ | refine awp_blockR ?_ | refine awp_skip ?_ | refine awp_ret ?_ | refine awp_exit ?_ | refine awp_region ?_ | refine awp_condM ?_ | refine And.intro ?_ ?_ | apply gQ_merge | apply gE_merge | exact EqV_w | exact EqE_w | exact EqV_ptr | exact EqE_ptr | exact EqV_msl | exact EqE_msl | exact EqV_agg | exact EqE_agg | exact EqV_fn | exact EqE_fn | exact EqV_gd | exact EqE_gd | refine gM_splitN ?_ ?_ | refine gM_split ?_ ?_ |  refine condM_splitDN ?_ ?_ | refine condM_splitD ?_ ?_ | refine condM_splitN ?_ ?_ | refine condM_split ?_ ?_ | refine condM_any ?_ ?_ | intro _) | (simp [*, hlt, hltI, hb]))
        all_goals try first | exact inI64 (by omega) (by omega) | omega
        all_goals (refine loopK_normal _ _ _ _ _ (k + 1) _ ?_ (by first | omega | (dsimp only; omega) | (simp; omega)) ?_; (· omega); (refine le_gen [] ?_ ?_ <;> first | trivial | (simp [*, (show cutFr c s (k + 1) = _ from k1), (show cutCl c s (k + 1) = _ from k2)]; done)))
      · rw [if_neg hc] at y1 y2
        rw [decide_eq_false hc] at hbe
        have hb := of_decide_eq_false hbe
        have k1 := keep y1
        have k2 := keep y2
        clear hbe hc y1 y2
        generalize cutFr c s k = f at *
        generalize cutCl c s k = L at *
        repeat' (first | (with_reducible first | refine awp_seq ?_ | refine awp_blockS ?_ | refine awp_blockC ?_ | refine awp_blockR ?_ | refine awp_skip ?_ | refine awp_ret ?_ | refine awp_exit ?_ | refine awp_region ?_ | refine awp_condM ?_ | refine And.intro ?_ ?_ | apply gQ_merge | apply gE_merge | exact EqV_w | exact EqE_w | exact EqV_ptr | exact EqE_ptr | exact EqV_msl | exact EqE_msl | exact EqV_agg | exact EqE_agg | exact EqV_fn | exact EqE_fn | exact EqV_gd | exact EqE_gd | refine gM_splitN ?_ ?_ | refine gM_split ?_ ?_ |  refine condM_splitDN ?_ ?_ | refine condM_splitD ?_ ?_ | refine condM_splitN ?_ ?_ | refine condM_split ?_ ?_ | refine condM_any ?_ ?_ | intro _) | (simp [*, hlt, hltI, hb]))
        all_goals try first | exact inI64 (by omega) (by omega) | omega
        all_goals (refine loopK_normal _ _ _ _ _ (k + 1) _ ?_ (by first | omega | (dsimp only; omega) | (simp; omega)) ?_; (· omega); (refine le_gen [] ?_ ?_ <;> first | trivial | (simp [*, (show cutFr c s (k + 1) = _ from k1), (show cutCl c s (k + 1) = _ from k2)]; done)))
    · have hke : k = s.size := by omega
      subst hke
      repeat' (first | (with_reducible first | refine awp_seq ?_ | refine awp_blockS ?_ | refine awp_blockC ?_ | refine awp_blockR ?_ | refine awp_skip ?_ | refine awp_ret ?_ | refine awp_exit ?_ | refine awp_region ?_ | refine awp_condM ?_ | refine And.intro ?_ ?_ | apply gQ_merge | apply gE_merge | exact EqV_w | exact EqE_w | exact EqV_ptr | exact EqE_ptr | exact EqV_msl | exact EqE_msl | exact EqV_agg | exact EqE_agg | exact EqV_fn | exact EqE_fn | exact EqV_gd | exact EqE_gd | refine gM_splitN ?_ ?_ | refine gM_split ?_ ?_ |  refine condM_splitDN ?_ ?_ | refine condM_splitD ?_ ?_ | refine condM_splitN ?_ ?_ | refine condM_split ?_ ?_ | refine condM_any ?_ ?_ | intro _) | (simp [*]))
      all_goals (refine finW_intro () ?_ ?_; (· trivial); (refine le_gen [] ?_ ?_ <;> first | trivial | (simp [*]; done)))
  · clear e0 e1 hf
    have hf := cutFr_le c s s.size
    have hcl := cutCl_len c s s.size
    generalize cutFr c s s.size = f at *
    generalize cutCl c s s.size = L at *
    have hfI : (f : Int) ≤ (s.size : Int) := by omega
    repeat' (first | (with_reducible first | refine awp_seq ?_ | refine awp_blockS ?_ | refine awp_blockC ?_ | refine awp_blockR ?_ | refine awp_skip ?_ | refine awp_ret ?_ | refine awp_exit ?_ | refine awp_region ?_ | refine awp_condM ?_ | refine And.intro ?_ ?_ | apply gQ_merge | apply gE_merge | exact EqV_w | exact EqE_w | exact EqV_ptr | exact EqE_ptr | exact EqV_msl | exact EqE_msl | exact EqV_agg | exact EqE_agg | exact EqV_fn | exact EqE_fn | exact EqV_gd | exact EqE_gd | refine gM_splitN ?_ ?_ | refine gM_split ?_ ?_ |  refine condM_splitDN ?_ ?_ | refine condM_splitD ?_ ?_ | refine condM_splitN ?_ ?_ | refine condM_split ?_ ?_ | refine condM_any ?_ ?_ | intro _) | (simp [*]))
    all_goals try first | exact inI64 (by omega) (by omega) | omega
end Go.Proofs.YtiialcomflggcaaDoor

