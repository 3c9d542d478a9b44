/- Contracts of functions for this claim: lemmas alone. -/
import Derived.Test.YtfpamehamllndaaGreatDoorP103
import Derived.Test.YtfpamehamllndaaGreatDoorP106
import Derived.Test.YtfpamehamllndaaGreatDoorLr
import Derived.Test.YtfpamehamllndaaGreatDoorLo
set_option linter.unusedSimpArgs false
set_option linter.unusedVariables false
namespace Go.Proofs.YtfpamehamllndaaGreatDoor
open Go Go.Fi Go.RowKit Go.Shelf
set_option maxRecDepth 20000

/-! ### the program reads numbers -/
theorem global_syn : Tryz.prog.globalNamed "strconv.ErrSyntax" = some (atoiRen.g 15) := by kernel_rfl
theorem global_rng : Tryz.prog.globalNamed "strconv.ErrRange" = some (atoiRen.g 16) := by kernel_rfl
theorem atoiE_c (s : ByteArray) (hs : s.size < 1000) (h : ∀ v, Lib.atoiAll s.data.toList ≠ .ok v) : RealCall Tryz.prog 82 [.str s] (.tup [.undef, .ifc (atoiRen.t 168) .undef]) true := by
  refine ⟨⟨_, Tryz.func82, by kernel_rfl, by kernel_rfl⟩, fun G w vs hok hl hrep => ?_⟩
  obtain ⟨v0, rfl⟩ := vs1 hl
  have r0 := hrep 0 _ v0 rfl rfl
  cases r0
  obtain ⟨t1, q1, hsyn⟩ := (show LaidOk w from hok).esyn
  obtain ⟨t2, q2, hrng⟩ := (show LaidOk w from hok).erng
  have fin : ∀ (e : Ending) (w' : World) (n : Int) (N : Nat), e = .returned (.tuple #[.int .i64 n, .iface (atoiRen.t 168) (.pointer (some ⟨N, 0, none⟩))]) → Below w.heap.size w w' →
      ∃ v, e = .returned v ∧ Below w.heap.size w w' ∧ Rep (fun b => (b < w.heap.size → G b) ∧ (true = true → w.heap.size ≤ b)) w' (.tup [.undef, .ifc (atoiRen.t 168) .undef]) v := by
    rintro e w' n N rfl hb
    refine ⟨_, rfl, hb, .tup rfl (fun j p u hp hu => ?_)⟩
    match j, hp, hu with
    | 0, hp, hu => simp at hp hu; subst hp; subst hu; exact .undef _
    | 1, hp, hu => simp at hp hu; subst hp; subst hu; exact .ifc (.undef _)
  cases hv : Lib.atoiAll s.data.toList
  · rename_i v; exact absurd hv (h v)
  · refine (Any.strconv_Atoi_syntax atoiLaysC_n172 s (by omega) hv (.iface t1 q1) w (by simpa using World.var?_cell global_syn hsyn 0) (.inr ⟨_, _, rfl⟩)).mono ?_
    rintro e w' ⟨N, he, _, _, hb⟩
    exact fin e w' _ N he hb
  · refine (Any.strconv_Atoi_range atoiLaysC_n172 s (by omega) hv (.iface t2 q2) w (by simpa using World.var?_cell global_rng hrng 0) (.inr ⟨_, _, rfl⟩)).mono ?_
    rintro e w' ⟨N, he, _, _, hb⟩
    exact fin e w' _ N he hb
end Go.Proofs.YtfpamehamllndaaGreatDoor
namespace Go.Proofs.YtfpamehamllndaaGreatDoor
open Go Go.Fi Go.RowKit Go.Shelf
set_option maxRecDepth 20000

structure NumOk (s : ByteArray) (v : Int) : Prop where
  size : s.size < 1000
  atoi : Lib.atoiAll s.data.toList = .ok v
  lo : -9223372036854775808 ≤ v
  hi : v ≤ 9223372036854775807
  text : dec v = s
  short : (Lib.trimPrefix s.data.toList [45]).length ≤ 9
theorem num_ok {s : ByteArray} {v : Int} (hs : s.size < 1000) (h : numS s = some v) : NumOk s v := by
  obtain ⟨h1, h2, h3⟩ := ref_inv h
  have hb := Lib.atoiAll_bounds h3
  exact ⟨hs, h3, hb.1, hb.2, ba_ext (by show (Lib.itoa v).toArray.toList = _; simpa using h1), by rw [trim_ds]; exact h2⟩
theorem drop_nthA {α : Type} [Inhabited α] (l : List α) (k : Nat) (h : k < l.length) : l.drop k = nth l k :: l.drop (k + 1) := by
  rw [List.drop_eq_getElem_cons h]
  simp [nth, List.getD_eq_getElem?_getD, List.getElem?_eq_getElem h]
def numL : List ByteArray → Option (List Int)
  | [] => some []
  | s :: r => match numS s with
    | none => none
    | some v => (numL r).map (v :: ·)
def numP (w : List ByteArray) (cnt : Int) : PV := match numL w with
  | some l => .tup [.sl l.length (ints l), .bool (decide ((l.length : Int) = cnt))]
  | none => .tup [.sl 0 [], .bool false]
theorem numL_drop_none {w : List ByteArray} {k : Nat} (h : k < w.length) (hn : numS (nth w k) = none) : numL (w.drop k) = none := by
  rw [drop_nthA w k h]
  simp [numL, hn]
theorem numL_drop_some {w : List ByteArray} {k : Nat} (h : k < w.length) {v : Int} (hv : numS (nth w k) = some v) : numL (w.drop k) = (numL (w.drop (k + 1))).map (v :: ·) := by
  rw [drop_nthA w k h]
  simp [numL, hv]
def restN (w : List ByteArray) (x : Nat × List Int) : Prop := numL w = (numL (w.drop x.1)).map (x.2 ++ ·)
theorem restN_zero (w : List ByteArray) : restN w (0, []) := by simp [restN]
theorem restN_next {w : List ByteArray} {k : Nat} {l : List Int} (h : k < w.length) {v : Int} (hv : numS (nth w k) = some v) (hr : restN w (k, l)) : restN w (k + 1, l ++ [v]) := by
  unfold restN at *
  rw [hr]
  dsimp only
  rw [numL_drop_some h hv]
  cases numL (w.drop (k + 1)) <;> simp
theorem restN_bad {w : List ByteArray} {k : Nat} {l : List Int} (h : k < w.length) (hv : numS (nth w k) = none) (hr : restN w (k, l)) : numL w = none := by
  unfold restN at hr
  rw [hr]
  dsimp only
  rw [numL_drop_none h hv]; rfl
theorem restN_end {w : List ByteArray} {l : List Int} (hr : restN w (w.length, l)) : numL w = some l := by
  unfold restN at hr
  rw [hr]
  simp [numL]
end Go.Proofs.YtfpamehamllndaaGreatDoor
namespace Go.Proofs.YtfpamehamllndaaGreatDoor
open Go Go.Fi Go.RowKit Go.Shelf
set_option maxRecDepth 20000

theorem frw {f : Nat} {args : List PV} {res : PV} (h : RealCall Tryz.prog f args res true) : RealCall Tryz.prog f args res false :=
  ⟨h.1, fun G w vs ho hl hr => (h.2 G w vs ho hl hr).mono fun e w' ⟨v, h1, h2, h3⟩ => ⟨v, h1, h2, h3.imp fun b hb => ⟨hb.1, fun hf => by cases hf⟩⟩⟩
set_option maxHeartbeats 8000000 in
theorem numbers_c (w : List ByteArray) (hw : w.length < 1000) (hs : ∀ k, k < w.length → (nth w k).size < 1000) (cnt : Int) : RealCall Tryz.prog 55 [.sl w.length (strP w), .int .i64 cnt] (numP w cnt) true := by
  have kr := keep (restN_zero w)
  have kR := keep (rfl : numP w cnt = numP w cnt)
  generalize hR : numP w cnt = R
  rw [hR] at kR
  have kR2 : Keep (numP w cnt = R) := keep hR
  clear hR kR
  have ks := keep hs
  clear hs
  refine realcall_intro Tryz.func55 (by kernel_rfl) rfl (Nat.le_of_ble_eq_true (by kernel_rfl)) ?_
  simp only [Tryz.results55, Tryz.ntmps55]
  repeat' (first | (with_reducible first | refine awp_seq ?_ | refine awp_region ?_ | exact EqV_w | exact EqE_w | exact EqV_fn | exact EqE_fn | exact EqV_gd | exact EqE_gd | intro _) | (simp [*]))
  refine awp_for4 1 (fun (x : Nat × List Int) => x.1 ≤ w.length ∧ x.2.length = x.1 ∧ Keep (restN w x)) [1, 11, 12] (fun (x : Nat × List Int) => [(13, .w false false (.int .i64 x.1)), (6, .msl 0 x.2.length 1 0 x.2.length)]) [] (fun (x : Nat × List Int) => [(0, iA x.2)]) (fun (x : Nat × List Int) => w.length - x.1) (fun (T : List Int) => Keep (numL w = some T) ∧ T.length = w.length) [1] (fun (T : List Int) => [(6, .msl 0 T.length 1 0 T.length)]) [] (fun (T : List Int) => [(0, iA T)]) ((0, [])) ⟨Nat.zero_le _, rfl, kr⟩ (le_gen [] (by simp) (by simp)) (fun x hk => ?_) (fun T hf => ?_)
  · clear kr
    obtain ⟨k, l⟩ := x
    obtain ⟨hk, hl, hr⟩ := hk
    dsimp only at hk hl
    by_cases hlt : k < w.length
    · have hsz := (show ∀ k, k < w.length → (nth w k).size < 1000 from ks) k hlt
      clear ks
      have c3 := trimP_c (nth w k) ⟨#[45]⟩
      have e : (⟨#[45]⟩ : ByteArray).data.toList = [45] := rfl
      rw [e] at c3
      have g0 := strP_get w k hlt
      cases hv : numS (nth w k) with
      | some v =>
        have ok := num_ok hsz hv
        have kn := keep (restN_next hlt hv hr)
        have c1 := frw (atoi_c (nth w k) (by omega) v ok.atoi)
        have c2 := itoa_c v ok.lo ok.hi
        rw [ok.text] at c2
        have h9 : ¬ (9 : Int) < ((⟨(Lib.trimPrefix (nth w k).data.toList [45]).toArray⟩ : ByteArray).size : Int) := by
          have := ok.short
          show ¬ (9 : Int) < (((Lib.trimPrefix (nth w k).data.toList [45]).toArray.size : Nat) : Int)
          rw [List.size_toArray]; omega
        clear ok e hv hr kR2
        generalize (⟨(Lib.trimPrefix (nth w k).data.toList [45]).toArray⟩ : ByteArray) = q at *
        generalize nth w k = s at *
        subst hl
        repeat' (first | (with_reducible first | refine awp_nili (ow := false) (fl := false) (p := .nili) (b := true) (r := false) rfl Tryz.underlying65 (by simp) rfl rfl (by decide) (by decide) ?_ | refine awp_seq ?_ | refine awp_blockS ?_ | refine awp_skip ?_ | refine awp_region ?_ | refine awp_condM ?_ | refine And.intro ?_ ?_ | exact EqV_w | exact EqE_w | exact EqV_fn | exact EqE_fn | exact EqV_gd | exact EqE_gd | refine cw (c1) ?_ | refine cw (c2) ?_ | refine cw (c3) ?_ | intro _) | (simp [*, hlt, h9, g0]) | (refine cw_eq (c1) ?_ ?_; (· (simp [*]; done))) | (refine cw_eq (c2) ?_ ?_; (· (simp [*]; done))) | (refine cw_eq (c3) ?_ ?_; (· (simp [*]; done))))
        all_goals try first | exact inI64 (by omega) (by omega) | omega
        all_goals (refine loopK_normal _ _ _ _ _ (l.length + 1, l ++ [v]) _ ?_ (by first | omega | (dsimp only; omega) | (simp; omega)) ?_; (· exact ⟨by omega, by simp, kn⟩); (refine le_gen [] ?_ ?_ <;> first | trivial | (simp [*]; done)))
      | none =>
        have hb : R = .tup [.sl 0 [], .bool false] := by
          rw [← (show numP w cnt = R from kR2)]
          unfold numP
          rw [restN_bad hlt hv hr]
        have hp : prgNum (nth w k).data.toList = none := by rw [prg_ref]; exact hv
        clear kR2 hr hv
        subst hb
        subst hl
        unfold prgNum at hp
        generalize nth w l.length = s at *
        cases hva : Lib.atoiAll s.data.toList with
        | ok v =>
          rw [hva] at hp
          have hbd := Lib.atoiAll_bounds hva
          have c1 := frw (atoi_c s (by omega) v hva)
          have c2 := itoa_c v hbd.1 hbd.2
          by_cases hd : dec v = s
          · have h9 : (9 : Int) < ((⟨(Lib.trimPrefix s.data.toList [45]).toArray⟩ : ByteArray).size : Int) := by
              have h1 : ¬ (Lib.trimPrefix s.data.toList [45]).length ≤ 9 := fun h2 => by
                simp only at hp
                rw [if_pos ⟨by rw [← hd]; simp [dec], h2⟩] at hp; cases hp
              show (9 : Int) < (((Lib.trimPrefix s.data.toList [45]).toArray.size : Nat) : Int)
              rw [List.size_toArray]; omega
            rw [hd] at c2
            clear hp e hbd hva hd
            generalize (⟨(Lib.trimPrefix s.data.toList [45]).toArray⟩ : ByteArray) = q at *
            repeat' (first | (with_reducible first | refine awp_nili (ow := false) (fl := false) (p := .nili) (b := true) (r := false) rfl Tryz.underlying65 (by simp) rfl rfl (by decide) (by decide) ?_ | refine awp_seq ?_ | refine awp_blockS ?_ | refine awp_skip ?_ | refine awp_ret ?_ | refine awp_region ?_ | refine awp_condM ?_ | refine And.intro ?_ ?_ | exact EqV_w | exact EqE_w | exact EqV_fn | exact EqE_fn | exact EqV_gd | exact EqE_gd | refine cw (c1) ?_ | refine cw (c2) ?_ | refine cw (c3) ?_ | intro _) | (simp [*, hlt, h9, g0]) | (refine cw_eq (c1) ?_ ?_; (· (simp [*]; done))) | (refine cw_eq (c2) ?_ ?_; (· (simp [*]; done))) | (refine cw_eq (c3) ?_ ?_; (· (simp [*]; done))))
          · clear hp e hva
            generalize dec v = t at *
            repeat' (first | (with_reducible first | refine awp_nili (ow := false) (fl := false) (p := .nili) (b := true) (r := false) rfl Tryz.underlying65 (by simp) rfl rfl (by decide) (by decide) ?_ | refine awp_seq ?_ | refine awp_blockS ?_ | refine awp_skip ?_ | refine awp_ret ?_ | refine awp_region ?_ | refine awp_condM ?_ | refine And.intro ?_ ?_ | exact EqV_w | exact EqE_w | exact EqV_fn | exact EqE_fn | exact EqV_gd | exact EqE_gd | refine cw (c1) ?_ | refine cw (c2) ?_ | intro _) | (simp [*, hlt, hd, g0]) | (refine cw_eq (c1) ?_ ?_; (· (simp [*]; done))) | (refine cw_eq (c2) ?_ ?_; (· (simp [*]; done))))
        | _ =>
          have c1 := frw (atoiE_c s hsz (fun v e => by rw [hva] at e; cases e))
          clear hp e hva c3
          repeat' (first | (with_reducible first | refine awp_nili (ow := false) (fl := false) (p := .ifc (atoiRen.t 168) .undef) (b := false) (r := true) rfl Tryz.underlying65 (by simp) rfl rfl (by decide) (by decide) ?_ | refine awp_seq ?_ | refine awp_blockS ?_ | refine awp_skip ?_ | refine awp_ret ?_ | refine awp_region ?_ | refine awp_condM ?_ | refine And.intro ?_ ?_ | exact EqV_w | exact EqE_w | exact EqV_fn | exact EqE_fn | exact EqV_gd | exact EqE_gd | refine cw (c1) ?_ | intro _) | (simp [*, hlt, g0]) | (refine cw_eq (c1) ?_ ?_; (· (simp [*]; done))))
    · have hke : k = w.length := by omega
      subst hke
      have ke := keep (restN_end (show restN w (w.length, l) from hr))
      clear ks kR2
      repeat' (first | (with_reducible first | refine awp_seq ?_ | refine awp_exit ?_ | refine awp_region ?_ | refine awp_condM ?_ | exact EqV_w | exact EqE_w | exact EqV_fn | exact EqE_fn | exact EqV_gd | exact EqE_gd | intro _) | (simp [*]))
      all_goals (refine finW_intro l ?_ ?_; (· exact ⟨ke, hl⟩); (refine le_gen [] ?_ ?_ <;> first | trivial | (simp [*, hl]; done)))
  · obtain ⟨hT, hTl⟩ := hf
    have hb : R = .tup [.sl T.length (ints T), .bool (decide ((T.length : Int) = cnt))] := by
      rw [← (show numP w cnt = R from kR2)]
      unfold numP
      rw [show numL w = some T from hT]
    subst hb
    clear kR2 ks kr hT
    repeat' (first | (with_reducible first | refine awp_seq ?_ | refine awp_ret ?_ | refine awp_region ?_ | exact EqV_w | exact EqE_w | exact EqV_fn | exact EqE_fn | exact EqV_gd | exact EqE_gd | intro _) | (simp [*]))
end Go.Proofs.YtfpamehamllndaaGreatDoor
namespace Go.Proofs.YtfpamehamllndaaGreatDoor
open Go Go.Fi Go.RowKit Go.Shelf
set_option maxRecDepth 20000

/-! ### a line without its end -/
def endB (s : ByteArray) : Bool := decide (1 ≤ s.size) && decide (s.extract (s.size - 1) s.size = nl1)
theorem hasSuffix_c (s : ByteArray) (hs : s.size < 1000000000) : RealCall Tryz.prog 81 [.str s, .str nl1] (.bool (endB s)) true := by
  have h1 : nl1.size = 1 := rfl
  by_cases hz : 1 ≤ s.size
  · have hzI : (1 : Int) ≤ (s.size : Int) := by omega
    have e : endB s = decide (s.extract (s.size - 1) s.size = nl1) := by unfold endB; rw [decide_eq_true hz, Bool.true_and]
    have hn : ((s.size : Int) - 1).toNat = s.size - 1 := by omega
    rw [e]
    clear e
    refine realcall_intro Tryz.func81 (by kernel_rfl) rfl (Nat.le_of_ble_eq_true (by kernel_rfl)) ?_
    simp only [Tryz.results81, Tryz.ntmps81]
    repeat' (first | (with_reducible first | refine awp_seq ?_ | refine awp_blockS ?_ | refine awp_blockC ?_ | refine awp_blockR ?_ | refine awp_skip ?_ | refine awp_ret ?_ | refine awp_exit ?_ | refine awp_region ?_ | refine awp_condM ?_ | refine And.intro ?_ ?_ | apply gQ_merge | apply gE_merge | exact EqV_w | exact EqE_w | exact EqV_ptr | exact EqE_ptr | exact EqV_msl | exact EqE_msl | exact EqV_agg | exact EqE_agg | exact EqV_fn | exact EqE_fn | exact EqV_gd | exact EqE_gd | refine gM_splitN ?_ ?_ | refine gM_split ?_ ?_ |  refine condM_splitDN ?_ ?_ | refine condM_splitD ?_ ?_ | refine condM_splitN ?_ ?_ | refine condM_split ?_ ?_ | refine condM_any ?_ ?_ | intro _) | (simp [*, hzI, h1, hn]))
    all_goals try first | exact inI64 (by omega) (by omega) | omega
  · have hzI : ¬ (1 : Int) ≤ (s.size : Int) := by omega
    have e : endB s = false := by unfold endB; rw [decide_eq_false hz, Bool.false_and]
    rw [e]
    clear e
    refine realcall_intro Tryz.func81 (by kernel_rfl) rfl (Nat.le_of_ble_eq_true (by kernel_rfl)) ?_
    simp only [Tryz.results81, Tryz.ntmps81]
    repeat' (first | (with_reducible first | refine awp_seq ?_ | refine awp_blockS ?_ | refine awp_blockC ?_ | refine awp_blockR ?_ | refine awp_skip ?_ | refine awp_ret ?_ | refine awp_exit ?_ | refine awp_region ?_ | refine awp_condM ?_ | refine And.intro ?_ ?_ | apply gQ_merge | apply gE_merge | exact EqV_w | exact EqE_w | exact EqV_ptr | exact EqE_ptr | exact EqV_msl | exact EqE_msl | exact EqV_agg | exact EqE_agg | exact EqV_fn | exact EqE_fn | exact EqV_gd | exact EqE_gd | refine gM_splitN ?_ ?_ | refine gM_split ?_ ?_ |  refine condM_splitDN ?_ ?_ | refine condM_splitD ?_ ?_ | refine condM_splitN ?_ ?_ | refine condM_split ?_ ?_ | refine condM_any ?_ ?_ | intro _) | (simp [*, hzI, h1]))
    all_goals try first | exact inI64 (by omega) (by omega) | omega
def cutN (s : ByteArray) : ByteArray := if endB s = true then s.extract 0 (s.size - 1) else s
theorem cutSuffixL_c (s : ByteArray) (hs : s.size < 1000000000) : RealCall Tryz.prog 53 [.str s, .str nl1] (.tup [.str (cutN s), .bool (endB s)]) true := by
  have h1 : nl1.size = 1 := rfl
  have c := hasSuffix_c s hs
  cases he : endB s with
  | true =>
    rw [he] at c
    have hz : 1 ≤ s.size := by
      unfold endB at he
      simp only [Bool.and_eq_true, decide_eq_true_eq] at he
      exact he.1
    have hn : ((s.size : Int) - 1).toNat = s.size - 1 := by omega
    have e : cutN s = s.extract 0 (s.size - 1) := by unfold cutN; rw [if_pos he]
    rw [e]
    clear e he
    refine realcall_intro Tryz.func53 (by kernel_rfl) rfl (Nat.le_of_ble_eq_true (by kernel_rfl)) ?_
    simp only [Tryz.results53, Tryz.ntmps53]
    repeat' (first | (with_reducible first | refine awp_seq ?_ | refine awp_blockS ?_ | refine awp_blockC ?_ | refine awp_blockR ?_ | refine awp_skip ?_ | refine awp_ret ?_ | refine awp_exit ?_ | refine awp_region ?_ | refine awp_condM ?_ | refine And.intro ?_ ?_ | apply gQ_merge | apply gE_merge | exact EqV_w | exact EqE_w | exact EqV_ptr | exact EqE_ptr | exact EqV_msl | exact EqE_msl | exact EqV_agg | exact EqE_agg | exact EqV_fn | exact EqE_fn | exact EqV_gd | exact EqE_gd | refine gM_splitN ?_ ?_ | refine gM_split ?_ ?_ |  refine condM_splitDN ?_ ?_ | refine condM_splitD ?_ ?_ | refine condM_splitN ?_ ?_ | refine condM_split ?_ ?_ | refine condM_any ?_ ?_ | refine cw (c) ?_ | intro _) | (simp [*, h1, hn]) | (refine cw_eq (c) ?_ ?_; (· (simp [*]; done))))
    all_goals try first | exact inI64 (by omega) (by omega) | omega
  | false =>
    rw [he] at c
    have e : cutN s = s := by unfold cutN; rw [if_neg (by rw [he]; decide)]
    rw [e]
    clear e he
    refine realcall_intro Tryz.func53 (by kernel_rfl) rfl (Nat.le_of_ble_eq_true (by kernel_rfl)) ?_
    simp only [Tryz.results53, Tryz.ntmps53]
    repeat' (first | (with_reducible first | refine awp_seq ?_ | refine awp_blockS ?_ | refine awp_blockC ?_ | refine awp_blockR ?_ | refine awp_skip ?_ | refine awp_ret ?_ | refine awp_exit ?_ | refine awp_region ?_ | refine awp_condM ?_ | refine And.intro ?_ ?_ | apply gQ_merge | apply gE_merge | exact EqV_w | exact EqE_w | exact EqV_ptr | exact EqE_ptr | exact EqV_msl | exact EqE_msl | exact EqV_agg | exact EqE_agg | exact EqV_fn | exact EqE_fn | exact EqV_gd | exact EqE_gd | refine gM_splitN ?_ ?_ | refine gM_split ?_ ?_ |  refine condM_splitDN ?_ ?_ | refine condM_splitD ?_ ?_ | refine condM_splitN ?_ ?_ | refine condM_split ?_ ?_ | refine condM_any ?_ ?_ | refine cw (c) ?_ | intro _) | (simp [*, h1]) | (refine cw_eq (c) ?_ ?_; (· (simp [*]; done))))
theorem cutSuffix_c (s : ByteArray) (hs : s.size < 1000000000) : RealCall Tryz.prog 24 [.str s, .str nl1] (.tup [.str (cutN s), .bool (endB s)]) true := by
  have c := cutSuffixL_c s hs
  refine realcall_intro Tryz.func24 (by kernel_rfl) rfl (Nat.le_of_ble_eq_true (by kernel_rfl)) ?_
  simp only [Tryz.results24, Tryz.ntmps24]
  repeat' (first | (with_reducible first | refine awp_seq ?_ | refine awp_blockS ?_ | refine awp_blockC ?_ | refine awp_blockR ?_ | refine awp_skip ?_ | refine awp_ret ?_ | refine awp_exit ?_ | refine awp_region ?_ | refine awp_condM ?_ | refine And.intro ?_ ?_ | apply gQ_merge | apply gE_merge | exact EqV_w | exact EqE_w | exact EqV_ptr | exact EqE_ptr | exact EqV_msl | exact EqE_msl | exact EqV_agg | exact EqE_agg | exact EqV_fn | exact EqE_fn | exact EqV_gd | exact EqE_gd | refine gM_splitN ?_ ?_ | refine gM_split ?_ ?_ |  refine condM_splitDN ?_ ?_ | refine condM_splitD ?_ ?_ | refine condM_splitN ?_ ?_ | refine condM_split ?_ ?_ | refine condM_any ?_ ?_ | refine cw (c) ?_ | intro _) | (simp [*]) | (refine cw_eq (c) ?_ ?_; (· (simp [*]; done))))
end Go.Proofs.YtfpamehamllndaaGreatDoor
namespace Go.Proofs.YtfpamehamllndaaGreatDoor
open Go Go.Fi Go.RowKit Go.Shelf
set_option maxRecDepth 20000

set_option maxHeartbeats 4000000 in
theorem print_bad (n : Net) (h : NetIn n) (he : (netS n).2.2 ≠ 0) : RealCall Tryz.prog 6 [aNet n] (.tup [.str ⟨#[]⟩, .int .i64 (netS n).2.2]) true := by
  have co := open_c n h
  generalize (netS n).2.2 = e at *
  unfold aNet cNet at *
  refine realcall_intro Tryz.func6 (by kernel_rfl) rfl (Nat.le_of_ble_eq_true (by kernel_rfl)) ?_
  simp only [Tryz.results6, Tryz.ntmps6]
  repeat' (first | (with_reducible first | refine awp_seq ?_ | refine awp_ret ?_ | refine awp_region ?_ | refine awp_condM ?_ | refine And.intro ?_ ?_ | exact EqV_w | exact EqE_w | exact EqV_fn | exact EqE_fn | exact EqV_gd | exact EqE_gd | refine cw (co) ?_ | intro _) | (simp [*, he]) | (refine cw_eq (co) ?_ ?_; (· (simp [*]; done))))
/-- 'place' of the reference: the first place of a name -/
def placeI (n : Net) (s : ByteArray) : Int := idxS (fun x => decide (s = x)) n.places
theorem rPlace_c (n : Net) (hl : n.places.length < 1000) (s : ByteArray) : RealCall Tryz.prog 30 [aNet n, .str s] (.int .i64 (placeI n s)) true := by
  have hR0 : idxFrom (fun x => decide (s = x)) n.places (n.places.length - 0) 0 = placeI n s := rfl
  generalize placeI n s = R at *
  have kR : Keep (idxFrom (fun x => decide (s = x)) n.places (n.places.length - 0) 0 = R) := keep hR0
  clear hR0
  unfold aNet cNet
  refine realcall_intro Tryz.func30 (by kernel_rfl) rfl (Nat.le_of_ble_eq_true (by kernel_rfl)) ?_
  simp only [Tryz.results30, Tryz.ntmps30]
  repeat' (first | (with_reducible first | refine awp_seq ?_ | refine awp_region ?_ | exact EqV_w | exact EqE_w | exact EqV_fn | exact EqE_fn | exact EqV_gd | exact EqE_gd | intro _) | (simp [*]))
  refine awp_for4 1 (fun (k : Nat) => k ≤ n.places.length ∧ Keep (idxFrom (fun x => decide (s = x)) n.places (n.places.length - k) k = R)) [1, 2] (fun (k : Nat) => [(5, .w false false (.int .i64 k))]) [0] (fun (k : Nat) => []) (fun (k : Nat) => n.places.length - k) (fun (_u : Unit) => R = -1) [] (fun (_u : Unit) => []) [] (fun (_u : Unit) => []) (0) ⟨Nat.zero_le _, kR⟩ (le_gen [] (by simp) (by simp)) (fun k hk => ?_) (fun _u hf => ?_)
  · clear kR
    obtain ⟨hk, hj⟩ := hk
    by_cases hlt : k < n.places.length
    · by_cases he : nth n.places k = s
      · have hb : R = k := by
          rw [← (show idxFrom _ _ _ _ = R from hj), idxFrom_hit _ n.places k hlt (by simp [he])]
        clear hj
        subst hb
        repeat' (first | (with_reducible first | refine awp_seq ?_ | refine awp_blockS ?_ | refine awp_skip ?_ | refine awp_ret ?_ | refine awp_region ?_ | refine awp_condM ?_ | exact EqV_w | exact EqE_w | exact EqV_fn | exact EqE_fn | exact EqV_gd | exact EqE_gd | intro _) | (simp [*, hlt, he]))
      · have kn := keep ((idxFrom_miss (fun x => decide (s = x)) n.places k hlt (by simp; exact fun e => he e.symm)).symm.trans (show _ = R from hj))
        clear hj
        repeat' (first | (with_reducible first | refine awp_seq ?_ | refine awp_blockS ?_ | refine awp_skip ?_ | refine awp_region ?_ | refine awp_condM ?_ | refine And.intro ?_ ?_ | exact EqV_w | exact EqE_w | exact EqV_fn | exact EqE_fn | exact EqV_gd | exact EqE_gd | intro _) | (simp [*, hlt, he]))
        all_goals try first | exact inI64 (by omega) (by omega) | omega
        all_goals (refine loopK_normal _ _ _ _ _ (k + 1) _ ?_ (by first | omega | (dsimp only; omega) | (simp; omega)) ?_; (· exact ⟨by omega, kn⟩); (refine le_gen [] ?_ ?_ <;> first | trivial | (simp [*]; done)))
    · have hke : k = n.places.length := by omega
      subst hke
      have hb : R = -1 := by
        rw [← (show idxFrom _ _ _ _ = R from hj), idxFrom_end _ n.places _ (Nat.le_refl _)]
      clear hj
      repeat' (first | (with_reducible first | refine awp_seq ?_ | refine awp_exit ?_ | refine awp_region ?_ | refine awp_condM ?_ | exact EqV_w | exact EqE_w | exact EqV_fn | exact EqE_fn | exact EqV_gd | exact EqE_gd | intro _) | (simp [*]))
      all_goals (refine finW_intro () ?_ ?_; (· first | trivial | exact hb); (refine le_gen [] ?_ ?_ <;> first | trivial | (simp [*]; done)))
  · clear kR
    repeat' (first | (with_reducible first | refine awp_seq ?_ | refine awp_ret ?_ | refine awp_region ?_ | exact EqV_w | exact EqE_w | exact EqV_fn | exact EqE_fn | exact EqV_gd | exact EqE_gd | intro _) | (simp [*]))
end Go.Proofs.YtfpamehamllndaaGreatDoor
namespace Go.Proofs.YtfpamehamllndaaGreatDoor
open Go Go.Fi Go.RowKit Go.Shelf
set_option maxRecDepth 20000

/-! ### what a text of a net says -/
/-- a net that is being read: places, roads without their ends, the names of the ends, the lines -/
structure Dr where
  places : List ByteArray
  roads : List Road
  ends : List (ByteArray × ByteArray)
  at_ : List Int
  deriving Inhabited
def addP (l : List Road) (p : Pt) : List Road := l.dropLast ++ [{ l.getLastD default with pts := (l.getLastD default).pts ++ [p] }]
def noneB (w : List ByteArray) : Bool := w.any fun x => decide (x = (⟨#[]⟩ : ByteArray))
def lineD (d : Dr) (k : Int) (w : List ByteArray) : Option Dr :=
  if noneB w = true then none
  else match w with
    | [a, x] => if a = wPlace ∧ d.roads.length = 0 then some { d with places := d.places ++ [x] } else none
    | [a, x, y, z, m] => if a = wRoad then (numS m).map fun v => { d with roads := d.roads ++ [⟨x, 0, 0, v, []⟩], ends := d.ends ++ [(y, z)], at_ := d.at_ ++ [k] } else none
    | [a, x, y, z] => if a = wTime ∧ d.roads.length ≠ 0 then (match numS x, numS y, numS z with
        | some u, some v, some q => some { d with roads := addP d.roads ⟨u, v, q⟩ }
        | _, _, _ => none) else none
    | _ => none
/-- the lines from number k on; .inl: the line that is wrong -/
def linesD (d : Dr) (k : Int) : List ByteArray → Int ⊕ Dr
  | [] => .inr d
  | [s] => if s = (⟨#[]⟩ : ByteArray) then .inr d else .inl k
  | s :: r => match lineD d k (pieces s sp1) with
    | none => .inl k
    | some d' => linesD d' (k + 1) r
def idxOf (places : List ByteArray) (s : ByteArray) : Int := idxS (fun x => decide (s = x)) places
/-- the places of the roads; .inl: the line of the first road that has a place that is not there -/
def endsD (places : List ByteArray) : List Road → List (ByteArray × ByteArray) → List Int → Int ⊕ List Road
  | r :: rs, e :: es, k :: ks =>
    if idxOf places e.1 < 0 ∨ idxOf places e.2 < 0 then .inl k
    else match endsD places rs es ks with
      | .inl j => .inl j
      | .inr l => .inr ({ r with frm := idxOf places e.1, to := idxOf places e.2 } :: l)
  | _, _, _ => .inr []
def noNet : Net := ⟨[], []⟩
def parseN (t : ByteArray) : Net × Int × Int :=
  if 60000 < t.size then (noNet, 0, 8)
  else match linesD ⟨[], [], [], []⟩ 1 (pieces t nl1) with
    | .inl k => (noNet, k, 7)
    | .inr d => match endsD d.places d.roads d.ends d.at_ with
      | .inl k => (noNet, k, 6)
      | .inr l => if (netS ⟨d.places, l⟩).2.2 = 0 then (⟨d.places, l⟩, 0, 0) else (noNet, 0, (netS ⟨d.places, l⟩).2.2)
end Go.Proofs.YtfpamehamllndaaGreatDoor
namespace Go.Proofs.YtfpamehamllndaaGreatDoor
open Go Go.Fi Go.RowKit Go.Shelf
set_option maxRecDepth 20000

/-! ### the net that is being read, in memory -/
theorem rHasN_c (l : List ByteArray) (hl : l.length < 1000) : RealCall Tryz.prog 57 [.sl l.length (strP l), .str ⟨#[]⟩] (.bool (noneB l)) true := rHasText_c l ⟨#[]⟩ hl

def roA (l : List Road) : List AV := (cRoads l).map (AV.w false false)
def ptA (l : List Pt) : List AV := (cPts l).map (AV.w false false)
def enP (l : List (ByteArray × ByteArray)) : List PV := l.flatMap fun e => [.str e.1, .str e.2]
def enA (l : List (ByteArray × ByteArray)) : List AV := (enP l).map (AV.w false false)
def laR (r : Road) : List AV := [.w false false (.str r.name), .w false false (.int .i64 r.frm), .w false false (.int .i64 r.to), .w false false (.int .i64 r.metres), .msl 7 (r.pts.length * 3) 3 0 r.pts.length]
def neR (x : ByteArray) (v : Int) : List AV := [.w false false (.str x), .w false false (.int .i64 0), .w false false (.int .i64 0), .w false false (.int .i64 v), .w true true (.sl 0 [])]
def rdC (l : List Road) : List AV := match l.reverse with
  | [] => []
  | r :: t => roA t.reverse ++ laR r
def ptH (l : List Road) : Heap := match l.reverse with
  | [] => []
  | r :: _ => [(7, ptA r.pts)]
def nxR (l : List Road) : Nat := match l.reverse with
  | [] => 7
  | _ :: _ => 8
theorem rdC_nil : rdC [] = [] := rfl
theorem rdC_snoc (l : List Road) (r : Road) : rdC (l ++ [r]) = roA l ++ laR r := by simp [rdC]
theorem ptH_nil : ptH [] = [] := rfl
theorem ptH_snoc (l : List Road) (r : Road) : ptH (l ++ [r]) = [(7, ptA r.pts)] := by simp [ptH]
theorem nxR_nil : nxR [] = 7 := rfl
theorem nxR_snoc (l : List Road) (r : Road) : nxR (l ++ [r]) = 8 := by simp [nxR]
@[simp] theorem roA_len (l : List Road) : (roA l).length = l.length * 5 := by simp [roA, cRoads, flatMap_len cRoad 5 (fun _ => rfl)]
@[simp] theorem ptA_len (l : List Pt) : (ptA l).length = l.length * 3 := by simp [ptA]
@[simp] theorem laR_len (r : Road) : (laR r).length = 5 := rfl
@[simp] theorem neR_len (x : ByteArray) (v : Int) : (neR x v).length = 5 := rfl
@[simp] theorem enP_len : ∀ l : List (ByteArray × ByteArray), (enP l).length = l.length * 2
  | [] => rfl
  | e :: r => by have := enP_len r; simp only [enP, List.flatMap_cons, List.length_append, List.length_cons, List.length_nil] at this ⊢; omega
@[simp] theorem enA_len (l : List (ByteArray × ByteArray)) : (enA l).length = l.length * 2 := by simp [enA]
theorem enA_snoc (l : List (ByteArray × ByteArray)) (y z : ByteArray) : enA (l ++ [(y, z)]) = enA l ++ [.w false false (.str y), .w false false (.str z)] := by simp [enA, enP]
theorem ptA_snoc (l : List Pt) (p : Pt) : ptA (l ++ [p]) = ptA l ++ [.w false false (.int .i64 p.at_), .w false false (.int .i64 p.lo), .w false false (.int .i64 p.hi)] := by simp [ptA, cPts, cPt]
@[simp] theorem roA_lt (l : List Road) (n : Nat) : AV.lt.ltL n (roA l) = true := ltL_map n false false _
@[simp] theorem ptA_lt (l : List Pt) (n : Nat) : AV.lt.ltL n (ptA l) = true := ltL_map n false false _
@[simp] theorem enA_lt (l : List (ByteArray × ByteArray)) (n : Nat) : AV.lt.ltL n (enA l) = true := ltL_map n false false _
@[simp] theorem roA_self {D : List Nat} {h : Heap} {n n' : Nat} (l : List Road) : cellsLe D h n n' (roA l) (roA l) = True := eq_true (cellsLe_w false false _)
@[simp] theorem ptA_self {D : List Nat} {h : Heap} {n n' : Nat} (l : List Pt) : cellsLe D h n n' (ptA l) (ptA l) = True := eq_true (cellsLe_w false false _)
@[simp] theorem enA_self {D : List Nat} {h : Heap} {n n' : Nat} (l : List (ByteArray × ByteArray)) : cellsLe D h n n' (enA l) (enA l) = True := eq_true (cellsLe_w false false _)
@[simp high] theorem roA_frz (h : Heap) (d : Nat) (l : List Road) : (roA l).mapM (frz h d) = some (cRoads l) := mapM_frz h d false false _
@[simp high] theorem ptA_frz (h : Heap) (d : Nat) (l : List Pt) : (ptA l).mapM (frz h d) = some (cPts l) := mapM_frz h d false false _
@[simp high] theorem enA_frz (h : Heap) (d : Nat) (l : List (ByteArray × ByteArray)) : (enA l).mapM (frz h d) = some (enP l) := mapM_frz h d false false _

theorem pieces_ne (s : ByteArray) (c : UInt8) : 1 ≤ (pieces s ⟨#[c]⟩).length := by
  have h := cutL_ne c s.data.toList
  rw [← pieces_cut, ne_eq, List.map_eq_nil_iff] at h
  exact Nat.pos_of_ne_zero fun e => h (List.length_eq_zero_iff.1 e)
theorem lineD_eq (d : Dr) (k : Int) (w : List ByteArray) (hw : 1 ≤ w.length) : lineD d k w =
    if noneB w = true then none
    else if nth w 0 = wPlace then (if w.length = 2 ∧ d.roads.length = 0 then some { d with places := d.places ++ [nth w 1] } else none)
    else if nth w 0 = wRoad then (if w.length = 5 then (numS (nth w 4)).map fun v => { d with roads := d.roads ++ [⟨nth w 1, 0, 0, v, []⟩], ends := d.ends ++ [(nth w 2, nth w 3)], at_ := d.at_ ++ [k] } else none)
    else if nth w 0 = wTime ∧ w.length = 4 ∧ d.roads.length ≠ 0 then (match numS (nth w 1), numS (nth w 2), numS (nth w 3) with
        | some u, some v, some q => some { d with roads := addP d.roads ⟨u, v, q⟩ }
        | _, _, _ => none)
    else none := by
  have h1 : ¬ wPlace = wRoad := by decide
  have h2 : ¬ wPlace = wTime := by decide
  have h3 : ¬ wRoad = wTime := by decide
  unfold lineD
  by_cases hn : noneB w = true
  · rw [if_pos hn, if_pos hn]
  · rw [if_neg hn, if_neg hn]
    match w with
    | [] => simp at hw
    | [a] => simp [nth]
    | [a, x] =>
      simp only [nth, List.getD_cons_zero, List.getD_cons_succ, List.length_cons, List.length_nil]
      by_cases ha : a = wPlace
      · subst ha; simp
      · simp [ha]
    | [a, x, y] => simp [nth]
    | [a, x, y, z] =>
      simp only [nth, List.getD_cons_zero, List.getD_cons_succ, List.length_cons, List.length_nil]
      by_cases ha : a = wTime
      · subst ha
        rw [if_neg (fun e : wTime = wPlace => h2 e.symm), if_neg (fun e : wTime = wRoad => h3 e.symm)]
        by_cases hr : d.roads.length = 0
        · rw [if_neg (fun e => e.2 hr), if_neg (fun e => e.2.2 hr)]
        · rw [if_pos ⟨rfl, hr⟩, if_pos ⟨rfl, trivial, hr⟩]
          all_goals (cases numS x <;> cases numS y <;> cases numS z <;> rfl)
      · rw [if_neg (fun e => ha e.1)]
        simp [ha]
    | [a, x, y, z, m] =>
      simp only [nth, List.getD_cons_zero, List.getD_cons_succ, List.length_cons, List.length_nil]
      by_cases ha : a = wRoad
      · subst ha
        rw [if_neg (fun e : wRoad = wPlace => h1 e.symm)]
        simp
      · simp [ha]
    | a :: b :: c :: d :: e :: f :: r =>
      simp [nth]
end Go.Proofs.YtfpamehamllndaaGreatDoor

