/- Contracts of functions for this claim: lemmas alone. -/
import Derived.Test.YtgoemokfpfnlkaaP80
import Derived.Test.YtgoemokfpfnlkaaLj
import Derived.Test.YtgoemokfpfnlkaaLq
import Derived.Test.YtgoemokfpfnlkaaLk
set_option linter.unusedSimpArgs false
set_option linter.unusedVariables false
namespace Go.Proofs.Ytgoemokfpfnlkaa
open Go Go.Fi
set_option maxRecDepth 20000

theorem cRecs_skip : ∀ (l : List Rec) (a : Nat), (cRecs l).drop (a * 3) = cRecs (l.drop a)
  | l, 0 => by simp
  | [], a + 1 => by simp [cRecs]
  | x :: l, a + 1 => by
    have := cRecs_skip l a
    rw [show (a + 1) * 3 = a * 3 + 3 by omega]
    show List.drop (a * 3 + 3) ([.str x.driver, .int .i64 x.frm, .int .i64 x.to] ++ cRecs l) = cRecs (l.drop a)
    rw [← this]
    simp
theorem cRecs_cut : ∀ (l : List Rec) (a : Nat), (cRecs l).take (a * 3) = cRecs (l.take a)
  | l, 0 => by simp [cRecs]
  | [], a + 1 => by simp [cRecs]
  | x :: l, a + 1 => by
    have := cRecs_cut l a
    rw [show (a + 1) * 3 = a * 3 + 3 by omega]
    show List.take (a * 3 + 3) ([.str x.driver, .int .i64 x.frm, .int .i64 x.to] ++ cRecs l) = [.str x.driver, .int .i64 x.frm, .int .i64 x.to] ++ cRecs (l.take a)
    rw [← this]
    simp
theorem nthR_drop (l : List Rec) (a k : Nat) : nth (l.drop a) k = nth l (a + k) := by
  simp [nth, List.getD_eq_getElem?_getD]
theorem nthR_take (l : List Rec) (a k : Nat) (h : k < a) : nth (l.take a) k = nth l k := by
  simp [nth, List.getD_eq_getElem?_getD, List.getElem?_take, h]
theorem Bnd.drop {l : List Rec} (h : Bnd l) (a : Nat) : Bnd (l.drop a) := by
  refine ⟨by rw [List.length_drop]; have := h.len; omega, fun k hk => ?_⟩
  rw [List.length_drop] at hk
  rw [nthR_drop]
  exact h.bd (a + k) (by omega)
theorem Bnd.take {l : List Rec} (h : Bnd l) (a : Nat) : Bnd (l.take a) := by
  refine ⟨by rw [List.length_take]; have := h.len; omega, fun k hk => ?_⟩
  rw [List.length_take] at hk
  rw [nthR_take _ _ _ (by omega)]
  exact h.bd k (by omega)
/-- the first rule that is broken at the last record -/
def brkS (r : Rul) (l : List Rec) : Int :=
  if r.stint < wrkS (l.drop (lP l r.brk l.length)) (nth l (lP l r.brk l.length)).frm (nth l (l.length - 1)).to (l.length - lP l r.brk l.length) then 1
  else if r.shift < (nth l (l.length - 1)).to - (nth l (lP l r.rest l.length)).frm then 2
  else if r.week < wrkS l ((nth l (l.length - 1)).to - 604800) (nth l (l.length - 1)).to l.length then 3 else 0
set_option maxHeartbeats 8000000 in
theorem broken_c (r : Rul) (l : List Rec) (h : Bnd l) (h0 : 0 < l.length) : RealCall Try.prog 52 [work r l] (.int .i64 (brkS r l)) true := by
  have hlen := h.len
  have ca := last_c r l h h0 r.brk
  have cb := last_c r l h h0 r.rest
  have la := lP_lt l r.brk l.length h0
  have lb := lP_lt l r.rest l.length h0
  unfold brkS
  generalize lP l r.brk l.length = a at *
  generalize lP l r.rest l.length = b at *
  have bb := h.bd b lb
  have ba := h.bd a la
  obtain ⟨m, hm⟩ : ∃ m, l.length = m + 1 := ⟨l.length - 1, by omega⟩
  have be := h.bd m (by omega)
  have e0 : l.length - 1 = m := by omega
  rw [e0]
  have cw := workIn_c (l.drop a) (h.drop a) (nth l a).frm (nth l m).to (by omega) (by omega)
  have cv := workIn_c l h ((nth l m).to - 604800) (nth l m).to (by omega) (by omega)
  rw [List.length_drop] at cw
  have hd := cRecs_skip l a
  have h1 : nthP (cRecs (l.drop a)) 1 = .int .i64 (nth l a).frm := by
    have := cRecs_1 (l.drop a) 0 (by rw [List.length_drop]; omega)
    rw [nthR_drop] at this
    simpa using this
  have ht : (cRecs (l.drop a)).take ((l.length - a) * 3) = cRecs (l.drop a) := List.take_of_length_le (by rw [cRecs_len, List.length_drop]; exact Nat.le_refl _)
  have hI : (l.length : Int) - 1 = (m : Int) := by omega
  have hml : m < l.length := by omega
  have hmI : (m : Int) < (l.length : Int) := by omega
  have laI : (a : Int) ≤ (l.length : Int) := by omega
  have laN : a ≤ l.length := by omega
  have lbI : (b : Int) < (l.length : Int) := by omega
  have hda : 0 < l.length - a := by omega
  generalize wrkS (l.drop a) (nth l a).frm (nth l m).to (l.length - a) = S1 at *
  generalize wrkS l ((nth l m).to - 604800) (nth l m).to l.length = S2 at *
  clear h hm e0
  unfold work cRul at *
  refine realcall_intro Try.func52 (by kernel_rfl) rfl (Nat.le_of_ble_eq_true (by kernel_rfl)) ?_
  simp only [Try.results52, Try.ntmps52]
  repeat' (first | (with_reducible first | refine awp_seq ?_ | refine awp_blockS ?_ | refine awp_blockC ?_ | refine awp_blockR ?_ | refine awp_skip ?_ | refine awp_ret ?_ | refine awp_exit ?_ | refine awp_region ?_ | refine awp_regionD (id := 2) 9 mixed (by decide +kernel) ?_ | refine awp_regionD (id := 3) 12 mixed (by decide +kernel) ?_ | refine awp_regionD (id := 5) 17 mixed (by decide +kernel) ?_ | refine awp_regionD (id := 7) 11 mixed (by decide +kernel) ?_ | refine awp_condM ?_ | refine And.intro ?_ ?_ | apply gQ_merge | apply gE_merge | exact EqV_w | exact EqE_w | exact EqV_ptr | exact EqE_ptr | exact EqV_msl | exact EqE_msl | exact EqV_agg | exact EqE_agg | exact EqV_fn | exact EqE_fn | exact EqV_gd | exact EqE_gd | refine gM_splitN ?_ ?_ | refine gM_split ?_ ?_ |  refine condM_splitDN ?_ ?_ | refine condM_splitD ?_ ?_ | refine condM_splitN ?_ ?_ | refine condM_split ?_ ?_ | refine condM_any ?_ ?_ | refine cw (ca) ?_ | refine cw (cb) ?_ | refine cw (cw) ?_ | refine cw (cv) ?_ | intro _) | (simp [*, hI, hml, hmI, laI, laN, lb, lbI, hda, hd, h1, ht]) | (refine cw_eq (ca) ?_ ?_; (· (simp [*]; done))) | (refine cw_eq (cb) ?_ ?_; (· (simp [*]; done))) | (refine cw_eq (cw) ?_ ?_; (· (simp [*]; done))) | (refine cw_eq (cv) ?_ ?_; (· (simp [*]; done))))
  all_goals try first | exact inI64 (by omega) (by omega) | omega
end Go.Proofs.Ytgoemokfpfnlkaa
namespace Go.Proofs.Ytgoemokfpfnlkaa
open Go Go.Fi
set_option maxRecDepth 20000

set_option maxHeartbeats 8000000 in
theorem firstBroken_c (r : Rul) (l : List Rec) (h : Bnd l) (hz : ∀ k, k < l.length → brkS r (l.take (k + 1)) = 0) : RealCall Try.prog 50 [work r l] (.agg [.int .i64 0, .int .i64 0]) true := by
  have hlen := h.len
  have kb := keep (fun k (hk : k < l.length) => by
    have := broken_c r (l.take (k + 1)) (h.take (k + 1)) (by rw [List.length_take]; omega)
    rw [hz k hk] at this
    unfold work cRul at this
    rw [List.length_take, Nat.min_eq_left (by omega)] at this
    exact this)
  clear h hz
  unfold work cRul at *
  refine realcall_intro Try.func50 (by kernel_rfl) rfl (Nat.le_of_ble_eq_true (by kernel_rfl)) ?_
  simp only [Try.results50, Try.ntmps50]
  repeat' (first | (with_reducible first | refine awp_seq ?_ | refine awp_blockS ?_ | refine awp_blockC ?_ | refine awp_blockR ?_ | refine awp_skip ?_ | refine awp_ret ?_ | refine awp_exit ?_ | refine awp_region ?_ | refine awp_regionD (id := 4) 10 mixed (by decide +kernel) ?_ | refine awp_condM ?_ | refine And.intro ?_ ?_ | apply gQ_merge | apply gE_merge | exact EqV_w | exact EqE_w | exact EqV_ptr | exact EqE_ptr | exact EqV_msl | exact EqE_msl | exact EqV_agg | exact EqE_agg | exact EqV_fn | exact EqE_fn | exact EqV_gd | exact EqE_gd | refine gM_splitN ?_ ?_ | refine gM_split ?_ ?_ |  refine condM_splitDN ?_ ?_ | refine condM_splitD ?_ ?_ | refine condM_splitN ?_ ?_ | refine condM_split ?_ ?_ | refine condM_any ?_ ?_ | intro _) | (simp [*]))
  refine awp_for3 (fun (k : Nat) => k ≤ l.length) [1, 2, 7] (fun (k : Nat) => [(8, .w false false (.int .i64 k))]) [0, 1] (fun (k : Nat) => []) (fun (k : Nat) => l.length - k) (fun (_u : Unit) => True) [2] (fun (_u : Unit) => []) [1] (fun (_u : Unit) => []) (0) (Nat.zero_le _) (by simp) (by simp) (fun k hk => ?_) (fun _u hf => ?_)
  · by_cases hlt : k < l.length
    · have hlI : (k : Int) < (l.length : Int) := by omega
      have hlI2 : (k : Int) + 1 ≤ (l.length : Int) := by omega
      have hlN : k + 1 ≤ l.length := by omega
      have cb := kb k hlt
      have hc := cRecs_cut l (k + 1)
      repeat' (first | (with_reducible first | refine awp_seq ?_ | refine awp_blockS ?_ | refine awp_blockC ?_ | refine awp_blockR ?_ | refine awp_skip ?_ | refine awp_ret ?_ | refine awp_exit ?_ | refine awp_region ?_ | refine awp_regionD (id := 4) 10 mixed (by decide +kernel) ?_ | refine awp_condM ?_ | refine And.intro ?_ ?_ | apply gQ_merge | apply gE_merge | exact EqV_w | exact EqE_w | exact EqV_ptr | exact EqE_ptr | exact EqV_msl | exact EqE_msl | exact EqV_agg | exact EqE_agg | exact EqV_fn | exact EqE_fn | exact EqV_gd | exact EqE_gd | refine gM_splitN ?_ ?_ | refine gM_split ?_ ?_ |  refine condM_splitDN ?_ ?_ | refine condM_splitD ?_ ?_ | refine condM_splitN ?_ ?_ | refine condM_split ?_ ?_ | refine condM_any ?_ ?_ | refine cw (cb) ?_ | intro _) | (simp [*, hlt, hlI, hlI2, hlN, hc]) | (refine cw_eq (cb) ?_ ?_; (· (simp [*]; done))))
      all_goals try first | exact inI64 (by omega) (by omega) | omega
      all_goals (refine loopK_normal _ _ _ _ _ (k + 1) _ ?_ (by first | omega | (dsimp only; omega) | (simp; omega)) ?_; (· omega); (refine le_of ?_ ?_ <;> first | trivial | (simp [*]; done)))
    · have hke : k = l.length := by omega
      subst hke
      repeat' (first | (with_reducible first | refine awp_seq ?_ | refine awp_blockS ?_ | refine awp_blockC ?_ | refine awp_blockR ?_ | refine awp_skip ?_ | refine awp_ret ?_ | refine awp_exit ?_ | refine awp_region ?_ | refine awp_regionD (id := 4) 10 mixed (by decide +kernel) ?_ | refine awp_condM ?_ | refine And.intro ?_ ?_ | apply gQ_merge | apply gE_merge | exact EqV_w | exact EqE_w | exact EqV_ptr | exact EqE_ptr | exact EqV_msl | exact EqE_msl | exact EqV_agg | exact EqE_agg | exact EqV_fn | exact EqE_fn | exact EqV_gd | exact EqE_gd | refine gM_splitN ?_ ?_ | refine gM_split ?_ ?_ |  refine condM_splitDN ?_ ?_ | refine condM_splitD ?_ ?_ | refine condM_splitN ?_ ?_ | refine condM_split ?_ ?_ | refine condM_any ?_ ?_ | intro _) | (simp [*]))
      all_goals (refine finW_intro () ?_ ?_; (· trivial); (refine le_of ?_ ?_ <;> first | trivial | (simp [*]; done)))
  · repeat' (first | (with_reducible first | refine awp_seq ?_ | refine awp_blockS ?_ | refine awp_blockC ?_ | refine awp_blockR ?_ | refine awp_skip ?_ | refine awp_ret ?_ | refine awp_exit ?_ | refine awp_region ?_ | refine awp_regionD (id := 4) 10 mixed (by decide +kernel) ?_ | refine awp_condM ?_ | refine And.intro ?_ ?_ | apply gQ_merge | apply gE_merge | exact EqV_w | exact EqE_w | exact EqV_ptr | exact EqE_ptr | exact EqV_msl | exact EqE_msl | exact EqV_agg | exact EqE_agg | exact EqV_fn | exact EqE_fn | exact EqV_gd | exact EqE_gd | refine gM_splitN ?_ ?_ | refine gM_split ?_ ?_ |  refine condM_splitDN ?_ ?_ | refine condM_splitD ?_ ?_ | refine condM_splitN ?_ ?_ | refine condM_split ?_ ?_ | refine condM_any ?_ ?_ | intro _) | (simp [*]))
def rA (l : List Rec) : List AV := (cRecs l).map (AV.w false false)
@[simp] theorem rA_len (l : List Rec) : (rA l).length = l.length * 3 := by simp [rA]
@[simp] theorem rA_nil : rA [] = [] := rfl
@[simp] theorem rA_lt (l : List Rec) (n : Nat) : AV.lt.ltL n (rA l) = true := ltL_map n false false _
@[simp] theorem rA_self {D : List Nat} {h : Heap} {n n' : Nat} (l : List Rec) : cellsLe D h n n' (rA l) (rA l) = True := eq_true (cellsLe_w false false _)
@[simp] theorem rA_frs : ∀ l : List Rec, AV.frs.frsL (rA l) = true
  | [] => rfl
  | x :: l => by
    show (AV.frs (.w false false (.str x.driver)) && (AV.frs (.w false false (.int .i64 x.frm)) && (AV.frs (.w false false (.int .i64 x.to)) && AV.frs.frsL (rA l)))) = true
    rw [rA_frs l]; rfl
@[simp] theorem rA_ones (l : List Rec) : ones (rA l) = true := by
  refine ones_map false false _ ?_
  unfold cRecs
  induction l with
  | nil => rfl
  | cons x l ih => simp [oneP, ih]
@[simp] theorem rA_sh (n : Nat) (l : List Rec) : AV.sh.shL n (rA l) = rA l := shL_map n false false _
theorem cloneRecs_mk (l : List Rec) (h : l.length < 100000) : MkCall Try.prog 51 [.sl l.length (cRecs l)] [rA l] (.msl 0 (l.length * 3) 3 0 l.length) := by
  have e : (cRecs l).map (AV.w false false) = rA l := rfl
  refine mkcall_intro 0 [] Try.func51 (by kernel_rfl) rfl (Nat.le_of_ble_eq_true (by kernel_rfl)) (by simp) (by simp) ?_
  simp only [Try.results51, Try.ntmps51]
  refine awp_seq ?_
  refine awp_region ?_
  simp
  refine awp_seq ?_
  refine awp_seq ?_
  refine awp_nil (ow := false) (fl := false) (k := l.length) (cells := cRecs l) Try.underlying54 ?_ ?_ ?_ ?_
  · simp
  · decide
  · decide
  intro b hb
  cases b with
  | true =>
    have hl : l = [] := List.eq_nil_of_length_eq_zero (hb rfl).1
    subst hl
    repeat' (first | (with_reducible first | refine awp_seq ?_ | refine awp_blockS ?_ | refine awp_blockC ?_ | refine awp_blockR ?_ | refine awp_skip ?_ | refine awp_ret ?_ | refine awp_exit ?_ | refine awp_region ?_ | refine awp_condM ?_ | refine And.intro ?_ ?_ | apply gQ_merge | apply gE_merge | exact EqV_w | exact EqE_w | exact EqV_ptr | exact EqE_ptr | exact EqV_msl | exact EqE_msl | exact EqV_agg | exact EqE_agg | exact EqV_fn | exact EqE_fn | exact EqV_gd | exact EqE_gd | refine gM_splitN ?_ ?_ | refine gM_split ?_ ?_ |  refine condM_splitDN ?_ ?_ | refine condM_splitD ?_ ?_ | refine condM_splitN ?_ ?_ | refine condM_split ?_ ?_ | refine condM_any ?_ ?_ | intro _) | (simp [*]))
  | false =>
    clear hb
    repeat' (first | (with_reducible first | refine awp_seq ?_ | refine awp_blockS ?_ | refine awp_blockC ?_ | refine awp_blockR ?_ | refine awp_skip ?_ | refine awp_ret ?_ | refine awp_exit ?_ | refine awp_region ?_ | refine awp_condM ?_ | refine And.intro ?_ ?_ | apply gQ_merge | apply gE_merge | exact EqV_w | exact EqE_w | exact EqV_ptr | exact EqE_ptr | exact EqV_msl | exact EqE_msl | exact EqV_agg | exact EqE_agg | exact EqV_fn | exact EqE_fn | exact EqV_gd | exact EqE_gd | refine gM_splitN ?_ ?_ | refine gM_split ?_ ?_ |  refine condM_splitDN ?_ ?_ | refine condM_splitD ?_ ?_ | refine condM_splitN ?_ ?_ | refine condM_split ?_ ?_ | refine condM_any ?_ ?_ | intro _) | (simp [*, e]))
    all_goals try omega
def trp (s lo hi nx : Int) : PV := .agg [.int .i64 s, .int .i64 lo, .int .i64 hi, .int .i64 nx]
def brsS (r : Rul) (l : List Rec) (s n : Int) : Int := if 0 < n then brkS r (l ++ [⟨ByteArray.empty, s, s + n⟩]) else 0
theorem cRecs_app (l : List Rec) (x : Rec) : cRecs (l ++ [x]) = cRecs l ++ [.str x.driver, .int .i64 x.frm, .int .i64 x.to] := by simp [cRecs]
theorem rA_app (l : List Rec) (x : Rec) : rA (l ++ [x]) = rA l ++ [.w false false (.str x.driver), .w false false (.int .i64 x.frm), .w false false (.int .i64 x.to)] := by simp [rA, cRecs_app]
theorem Bnd.app {l : List Rec} (h : Bnd l) (hl : l.length ≤ 40) {x : Rec} (h0 : 0 ≤ x.frm ∧ x.to ≤ 9000000000 ∧ x.frm ≤ 9000000000 ∧ 0 ≤ x.to) : Bnd (l ++ [x]) := by
  refine ⟨by simp; omega, fun k hk => ?_⟩
  by_cases hlt : k < l.length
  · have e : nth (l ++ [x]) k = nth l k := by simp [nth, List.getD_eq_getElem?_getD, List.getElem?_append, hlt]
    rw [e]; exact h.bd k hlt
  · have hk' : k = l.length := by simp at hk; omega
    subst hk'
    have e : nth (l ++ [x]) l.length = x := by simp [nth, List.getD_eq_getElem?_getD]
    rw [e]; exact h0
set_option maxHeartbeats 8000000 in
theorem breaks_c (r : Rul) (l : List Rec) (h : Bnd l) (hl : l.length ≤ 40) (s lo hi n : Int) (hs : 0 ≤ s ∧ s ≤ 8640000000) (hn : 0 ≤ n ∧ n ≤ 300000) : RealCall Try.prog 27 [work r l, trp s lo hi (-1), .int .i64 n] (.int .i64 (brsS r l s n)) true := by
  unfold brsS
  by_cases hp : 0 < n
  · rw [if_pos hp]
    have cb := broken_c r (l ++ [⟨ByteArray.empty, s, s + n⟩]) (h.app hl (by dsimp only; omega)) (by simp)
    have cm := cloneRecs_mk l (by omega)
    have hap := rA_app l ⟨ByteArray.empty, s, s + n⟩
    have e1 : (l ++ [(⟨ByteArray.empty, s, s + n⟩ : Rec)]).length = l.length + 1 := by simp
    have ho := rA_ones (l ++ [⟨ByteArray.empty, s, s + n⟩])
    unfold work cRul trp at *
    rw [e1] at cb
    have hfz : ∀ (H : Heap) (d : Nat), (rA l ++ [AV.w false false (.str ByteArray.empty), AV.w false false (.int .i64 s), AV.w false false (.int .i64 (s + n))]).mapM (frz H d) = some (cRecs (l ++ [⟨ByteArray.empty, s, s + n⟩])) := fun H d => by
      rw [← hap]; exact mapM_frz H d false false _
    generalize brkS r (l ++ [⟨ByteArray.empty, s, s + n⟩]) = b at *
    generalize l ++ [(⟨ByteArray.empty, s, s + n⟩ : Rec)] = L at *
    clear h
    refine realcall_intro Try.func27 (by kernel_rfl) rfl (Nat.le_of_ble_eq_true (by kernel_rfl)) ?_
    simp only [Try.results27, Try.ntmps27]
    repeat' (first | (with_reducible first | refine awp_seq ?_ | refine awp_blockS ?_ | refine awp_blockC ?_ | refine awp_blockR ?_ | refine awp_skip ?_ | refine awp_ret ?_ | refine awp_exit ?_ | refine awp_region ?_ | refine awp_regionD (id := 3) 8 mixed (by decide +kernel) ?_ | refine awp_condM ?_ | refine And.intro ?_ ?_ | apply gQ_merge | apply gE_merge | exact EqV_w | exact EqE_w | exact EqV_ptr | exact EqE_ptr | exact EqV_msl | exact EqE_msl | exact EqV_agg | exact EqE_agg | exact EqV_fn | exact EqE_fn | exact EqV_gd | exact EqE_gd | refine gM_splitN ?_ ?_ | refine gM_split ?_ ?_ |  refine condM_splitDN ?_ ?_ | refine condM_splitD ?_ ?_ | refine condM_splitN ?_ ?_ | refine condM_split ?_ ?_ | refine condM_any ?_ ?_ | refine cwM (cm) ?_ | refine cw (cb) ?_ | intro _) | (simp [*, hp]) | (refine cw_eq (cb) ?_ ?_; (· (simp [*]; done))))
    all_goals try first | exact inI64 (by omega) (by omega) | omega
  · rw [if_neg hp]
    clear h
    unfold work cRul trp at *
    refine realcall_intro Try.func27 (by kernel_rfl) rfl (Nat.le_of_ble_eq_true (by kernel_rfl)) ?_
    simp only [Try.results27, Try.ntmps27]
    repeat' (first | (with_reducible first | refine awp_seq ?_ | refine awp_blockS ?_ | refine awp_blockC ?_ | refine awp_blockR ?_ | refine awp_skip ?_ | refine awp_ret ?_ | refine awp_exit ?_ | refine awp_region ?_ | refine awp_regionD (id := 3) 8 mixed (by decide +kernel) ?_ | refine awp_condM ?_ | refine And.intro ?_ ?_ | apply gQ_merge | apply gE_merge | exact EqV_w | exact EqE_w | exact EqV_ptr | exact EqE_ptr | exact EqV_msl | exact EqE_msl | exact EqV_agg | exact EqE_agg | exact EqV_fn | exact EqE_fn | exact EqV_gd | exact EqE_gd | refine gM_splitN ?_ ?_ | refine gM_split ?_ ?_ |  refine condM_splitDN ?_ ?_ | refine condM_splitD ?_ ?_ | refine condM_splitN ?_ ?_ | refine condM_split ?_ ?_ | refine condM_any ?_ ?_ | intro _) | (simp [*, hp]))
    all_goals try first | exact inI64 (by omega) (by omega) | omega
end Go.Proofs.Ytgoemokfpfnlkaa
namespace Go.Proofs.Ytgoemokfpfnlkaa
open Go Go.Fi
set_option maxRecDepth 20000

structure RulOk (r : Rul) : Prop where
  a : 1 ≤ r.brk ∧ r.brk ≤ 2000000
  b : 1 ≤ r.rest ∧ r.rest ≤ 2000000
  c : 1 ≤ r.stint ∧ r.stint ≤ 2000000
  d : 1 ≤ r.shift ∧ r.shift ≤ 2000000
  e : 1 ≤ r.week ∧ r.week ≤ 2000000
  o : r.brk ≤ r.rest
theorem winB_t {n lo hi : Int} (h : lo ≤ n ∧ n ≤ hi) : winB n lo hi = true := by unfold winB; simp [h.1, h.2]
theorem dWithin_t {n lo hi : Int} (h : lo ≤ n ∧ n ≤ hi) : RealCall Try.prog 45 [.int .i64 n, .int .i64 lo, .int .i64 hi] (.bool true) true := by
  have := dWithin_c n lo hi
  rwa [winB_t h] at this
theorem dUnless_t (e : Int) : RealCall Try.prog 47 [.bool true, .int .i64 e] (.int .i64 0) true := dUnless_c true e
set_option maxHeartbeats 8000000 in
theorem checkRules_c (r : Rul) (h : RulOk r) : RealCall Try.prog 62 [.agg (cRul r)] (.int .i64 0) true := by
  have ca := dWithin_t h.a
  have cb := dWithin_t h.b
  have cc := dWithin_t h.c
  have cd := dWithin_t h.d
  have ce := dWithin_t h.e
  have ho := h.o
  unfold cRul
  clear h
  refine realcall_intro Try.func62 (by kernel_rfl) rfl (Nat.le_of_ble_eq_true (by kernel_rfl)) ?_
  simp only [Try.results62, Try.ntmps62]
  repeat' (first | (with_reducible first | refine awp_seq ?_ | refine awp_blockS ?_ | refine awp_blockC ?_ | refine awp_blockR ?_ | refine awp_skip ?_ | refine awp_ret ?_ | refine awp_exit ?_ | refine awp_region ?_ | refine awp_condM ?_ | refine And.intro ?_ ?_ | apply gQ_merge | apply gE_merge | exact EqV_w | exact EqE_w | exact EqV_ptr | exact EqE_ptr | exact EqV_msl | exact EqE_msl | exact EqV_agg | exact EqE_agg | exact EqV_fn | exact EqE_fn | exact EqV_gd | exact EqE_gd | refine gM_splitN ?_ ?_ | refine gM_split ?_ ?_ |  refine condM_splitDN ?_ ?_ | refine condM_splitD ?_ ?_ | refine condM_splitN ?_ ?_ | refine condM_split ?_ ?_ | refine condM_any ?_ ?_ | intro _) | (simp [*]))
  refine awp_for3 (fun (k : Nat) => k ≤ 5) [1, 15] (fun (k : Nat) => [(16, .w false false (.int .i64 k))]) [0] (fun (k : Nat) => []) (fun (k : Nat) => 5 - k) (fun (_u : Unit) => True) [1] (fun (_u : Unit) => []) [0] (fun (_u : Unit) => []) (0) (Nat.zero_le _) (by simp) (by simp) (fun k hk => ?_) (fun _u hf => ?_)
  · match k, hk with
    | 0, _ =>
      refine awp_seq ?_
      refine awp_region ?_
      simp [*]
      refine awp_seq ?_
      refine awp_condM ?_
      simp [*]
      refine awp_skip ?_
      simp [*]
      refine awp_seq ?_
      refine awp_blockS ?_
      refine awp_seq ?_
      refine awp_idx1 (j := 0) (cs := [.w false false (.int .i64 r.brk), .w false false (.int .i64 r.rest), .w false false (.int .i64 r.stint), .w false false (.int .i64 r.shift), .w false false (.int .i64 r.week)]) (k := 5) (e := 3) (d2 := 18) (x := 15) (i := 16) (ow := false) (fl := false) rfl Try.underlying123 (by simp) (by simp) (by simp) (by simp) (by decide) (by simp) (by decide) ?_
      simp [*]
      repeat' (first | (with_reducible first | refine awp_seq ?_ | refine awp_blockS ?_ | refine awp_blockC ?_ | refine awp_blockR ?_ | refine awp_skip ?_ | refine awp_ret ?_ | refine awp_exit ?_ | refine awp_region ?_ | refine awp_condM ?_ | refine And.intro ?_ ?_ | apply gQ_merge | apply gE_merge | exact EqV_w | exact EqE_w | exact EqV_ptr | exact EqE_ptr | exact EqV_msl | exact EqE_msl | exact EqV_agg | exact EqE_agg | exact EqV_fn | exact EqE_fn | exact EqV_gd | exact EqE_gd | refine gM_splitN ?_ ?_ | refine gM_split ?_ ?_ |  refine condM_splitDN ?_ ?_ | refine condM_splitD ?_ ?_ | refine condM_splitN ?_ ?_ | refine condM_split ?_ ?_ | refine condM_any ?_ ?_ | refine cw (ca) ?_ | intro _) | (simp [*]) | (refine cw_eq (ca) ?_ ?_; (· (simp [*]; done))))
      all_goals try first | exact inI64 (by omega) (by omega) | omega
      all_goals (refine loopK_normal _ _ _ _ _ 1 _ ?_ (by first | omega | (dsimp only; omega) | (simp; omega)) ?_; (· omega); (refine le_of ?_ ?_ <;> first | trivial | (simp [*]; done)))
    | 1, _ =>
      refine awp_seq ?_
      refine awp_region ?_
      simp [*]
      refine awp_seq ?_
      refine awp_condM ?_
      simp [*]
      refine awp_skip ?_
      simp [*]
      refine awp_seq ?_
      refine awp_blockS ?_
      refine awp_seq ?_
      refine awp_idx1 (j := 1) (cs := [.w false false (.int .i64 r.brk), .w false false (.int .i64 r.rest), .w false false (.int .i64 r.stint), .w false false (.int .i64 r.shift), .w false false (.int .i64 r.week)]) (k := 5) (e := 3) (d2 := 18) (x := 15) (i := 16) (ow := false) (fl := false) rfl Try.underlying123 (by simp) (by simp) (by simp) (by simp) (by decide) (by simp) (by decide) ?_
      simp [*]
      repeat' (first | (with_reducible first | refine awp_seq ?_ | refine awp_blockS ?_ | refine awp_blockC ?_ | refine awp_blockR ?_ | refine awp_skip ?_ | refine awp_ret ?_ | refine awp_exit ?_ | refine awp_region ?_ | refine awp_condM ?_ | refine And.intro ?_ ?_ | apply gQ_merge | apply gE_merge | exact EqV_w | exact EqE_w | exact EqV_ptr | exact EqE_ptr | exact EqV_msl | exact EqE_msl | exact EqV_agg | exact EqE_agg | exact EqV_fn | exact EqE_fn | exact EqV_gd | exact EqE_gd | refine gM_splitN ?_ ?_ | refine gM_split ?_ ?_ |  refine condM_splitDN ?_ ?_ | refine condM_splitD ?_ ?_ | refine condM_splitN ?_ ?_ | refine condM_split ?_ ?_ | refine condM_any ?_ ?_ | refine cw (cb) ?_ | intro _) | (simp [*]) | (refine cw_eq (cb) ?_ ?_; (· (simp [*]; done))))
      all_goals try first | exact inI64 (by omega) (by omega) | omega
      all_goals (refine loopK_normal _ _ _ _ _ 2 _ ?_ (by first | omega | (dsimp only; omega) | (simp; omega)) ?_; (· omega); (refine le_of ?_ ?_ <;> first | trivial | (simp [*]; done)))
    | 2, _ =>
      refine awp_seq ?_
      refine awp_region ?_
      simp [*]
      refine awp_seq ?_
      refine awp_condM ?_
      simp [*]
      refine awp_skip ?_
      simp [*]
      refine awp_seq ?_
      refine awp_blockS ?_
      refine awp_seq ?_
      refine awp_idx1 (j := 2) (cs := [.w false false (.int .i64 r.brk), .w false false (.int .i64 r.rest), .w false false (.int .i64 r.stint), .w false false (.int .i64 r.shift), .w false false (.int .i64 r.week)]) (k := 5) (e := 3) (d2 := 18) (x := 15) (i := 16) (ow := false) (fl := false) rfl Try.underlying123 (by simp) (by simp) (by simp) (by simp) (by decide) (by simp) (by decide) ?_
      simp [*]
      repeat' (first | (with_reducible first | refine awp_seq ?_ | refine awp_blockS ?_ | refine awp_blockC ?_ | refine awp_blockR ?_ | refine awp_skip ?_ | refine awp_ret ?_ | refine awp_exit ?_ | refine awp_region ?_ | refine awp_condM ?_ | refine And.intro ?_ ?_ | apply gQ_merge | apply gE_merge | exact EqV_w | exact EqE_w | exact EqV_ptr | exact EqE_ptr | exact EqV_msl | exact EqE_msl | exact EqV_agg | exact EqE_agg | exact EqV_fn | exact EqE_fn | exact EqV_gd | exact EqE_gd | refine gM_splitN ?_ ?_ | refine gM_split ?_ ?_ |  refine condM_splitDN ?_ ?_ | refine condM_splitD ?_ ?_ | refine condM_splitN ?_ ?_ | refine condM_split ?_ ?_ | refine condM_any ?_ ?_ | refine cw (cc) ?_ | intro _) | (simp [*]) | (refine cw_eq (cc) ?_ ?_; (· (simp [*]; done))))
      all_goals try first | exact inI64 (by omega) (by omega) | omega
      all_goals (refine loopK_normal _ _ _ _ _ 3 _ ?_ (by first | omega | (dsimp only; omega) | (simp; omega)) ?_; (· omega); (refine le_of ?_ ?_ <;> first | trivial | (simp [*]; done)))
    | 3, _ =>
      refine awp_seq ?_
      refine awp_region ?_
      simp [*]
      refine awp_seq ?_
      refine awp_condM ?_
      simp [*]
      refine awp_skip ?_
      simp [*]
      refine awp_seq ?_
      refine awp_blockS ?_
      refine awp_seq ?_
      refine awp_idx1 (j := 3) (cs := [.w false false (.int .i64 r.brk), .w false false (.int .i64 r.rest), .w false false (.int .i64 r.stint), .w false false (.int .i64 r.shift), .w false false (.int .i64 r.week)]) (k := 5) (e := 3) (d2 := 18) (x := 15) (i := 16) (ow := false) (fl := false) rfl Try.underlying123 (by simp) (by simp) (by simp) (by simp) (by decide) (by simp) (by decide) ?_
      simp [*]
      repeat' (first | (with_reducible first | refine awp_seq ?_ | refine awp_blockS ?_ | refine awp_blockC ?_ | refine awp_blockR ?_ | refine awp_skip ?_ | refine awp_ret ?_ | refine awp_exit ?_ | refine awp_region ?_ | refine awp_condM ?_ | refine And.intro ?_ ?_ | apply gQ_merge | apply gE_merge | exact EqV_w | exact EqE_w | exact EqV_ptr | exact EqE_ptr | exact EqV_msl | exact EqE_msl | exact EqV_agg | exact EqE_agg | exact EqV_fn | exact EqE_fn | exact EqV_gd | exact EqE_gd | refine gM_splitN ?_ ?_ | refine gM_split ?_ ?_ |  refine condM_splitDN ?_ ?_ | refine condM_splitD ?_ ?_ | refine condM_splitN ?_ ?_ | refine condM_split ?_ ?_ | refine condM_any ?_ ?_ | refine cw (cd) ?_ | intro _) | (simp [*]) | (refine cw_eq (cd) ?_ ?_; (· (simp [*]; done))))
      all_goals try first | exact inI64 (by omega) (by omega) | omega
      all_goals (refine loopK_normal _ _ _ _ _ 4 _ ?_ (by first | omega | (dsimp only; omega) | (simp; omega)) ?_; (· omega); (refine le_of ?_ ?_ <;> first | trivial | (simp [*]; done)))
    | 4, _ =>
      refine awp_seq ?_
      refine awp_region ?_
      simp [*]
      refine awp_seq ?_
      refine awp_condM ?_
      simp [*]
      refine awp_skip ?_
      simp [*]
      refine awp_seq ?_
      refine awp_blockS ?_
      refine awp_seq ?_
      refine awp_idx1 (j := 4) (cs := [.w false false (.int .i64 r.brk), .w false false (.int .i64 r.rest), .w false false (.int .i64 r.stint), .w false false (.int .i64 r.shift), .w false false (.int .i64 r.week)]) (k := 5) (e := 3) (d2 := 18) (x := 15) (i := 16) (ow := false) (fl := false) rfl Try.underlying123 (by simp) (by simp) (by simp) (by simp) (by decide) (by simp) (by decide) ?_
      simp [*]
      repeat' (first | (with_reducible first | refine awp_seq ?_ | refine awp_blockS ?_ | refine awp_blockC ?_ | refine awp_blockR ?_ | refine awp_skip ?_ | refine awp_ret ?_ | refine awp_exit ?_ | refine awp_region ?_ | refine awp_condM ?_ | refine And.intro ?_ ?_ | apply gQ_merge | apply gE_merge | exact EqV_w | exact EqE_w | exact EqV_ptr | exact EqE_ptr | exact EqV_msl | exact EqE_msl | exact EqV_agg | exact EqE_agg | exact EqV_fn | exact EqE_fn | exact EqV_gd | exact EqE_gd | refine gM_splitN ?_ ?_ | refine gM_split ?_ ?_ |  refine condM_splitDN ?_ ?_ | refine condM_splitD ?_ ?_ | refine condM_splitN ?_ ?_ | refine condM_split ?_ ?_ | refine condM_any ?_ ?_ | refine cw (ce) ?_ | intro _) | (simp [*]) | (refine cw_eq (ce) ?_ ?_; (· (simp [*]; done))))
      all_goals try first | exact inI64 (by omega) (by omega) | omega
      all_goals (refine loopK_normal _ _ _ _ _ 5 _ ?_ (by first | omega | (dsimp only; omega) | (simp; omega)) ?_; (· omega); (refine le_of ?_ ?_ <;> first | trivial | (simp [*]; done)))
    | 5, _ =>
      repeat' (first | (with_reducible first | refine awp_seq ?_ | refine awp_blockS ?_ | refine awp_blockC ?_ | refine awp_blockR ?_ | refine awp_skip ?_ | refine awp_ret ?_ | refine awp_exit ?_ | refine awp_region ?_ | refine awp_condM ?_ | refine And.intro ?_ ?_ | apply gQ_merge | apply gE_merge | exact EqV_w | exact EqE_w | exact EqV_ptr | exact EqE_ptr | exact EqV_msl | exact EqE_msl | exact EqV_agg | exact EqE_agg | exact EqV_fn | exact EqE_fn | exact EqV_gd | exact EqE_gd | refine gM_splitN ?_ ?_ | refine gM_split ?_ ?_ |  refine condM_splitDN ?_ ?_ | refine condM_splitD ?_ ?_ | refine condM_splitN ?_ ?_ | refine condM_split ?_ ?_ | refine condM_any ?_ ?_ | intro _) | (simp [*]))
      all_goals (refine finW_intro () ?_ ?_; (· trivial); (refine le_of ?_ ?_ <;> first | trivial | (simp [*]; done)))
  · repeat' (first | (with_reducible first | refine awp_seq ?_ | refine awp_blockS ?_ | refine awp_blockC ?_ | refine awp_blockR ?_ | refine awp_skip ?_ | refine awp_ret ?_ | refine awp_exit ?_ | refine awp_region ?_ | refine awp_condM ?_ | refine And.intro ?_ ?_ | apply gQ_merge | apply gE_merge | exact EqV_w | exact EqE_w | exact EqV_ptr | exact EqE_ptr | exact EqV_msl | exact EqE_msl | exact EqV_agg | exact EqE_agg | exact EqV_fn | exact EqE_fn | exact EqV_gd | exact EqE_gd | refine gM_splitN ?_ ?_ | refine gM_split ?_ ?_ |  refine condM_splitDN ?_ ?_ | refine condM_splitD ?_ ?_ | refine condM_splitN ?_ ?_ | refine condM_split ?_ ?_ | refine condM_any ?_ ?_ | refine cw (dUnless_t _) ?_ | intro _) | (simp [*, ho]) | (refine cw_eq (dUnless_t _) ?_ ?_; (· (simp [*]; done))))
end Go.Proofs.Ytgoemokfpfnlkaa
namespace Go.Proofs.Ytgoemokfpfnlkaa
open Go Go.Fi
set_option maxRecDepth 20000

def okK (r : Rul) : Nat → Bool
  | 0 => true
  | 1 => winB r.brk 1 2000000
  | 2 => winB r.brk 1 2000000 && winB r.rest 1 2000000
  | 3 => winB r.brk 1 2000000 && winB r.rest 1 2000000 && winB r.stint 1 2000000
  | 4 => winB r.brk 1 2000000 && winB r.rest 1 2000000 && winB r.stint 1 2000000 && winB r.shift 1 2000000
  | _ => winB r.brk 1 2000000 && winB r.rest 1 2000000 && winB r.stint 1 2000000 && winB r.shift 1 2000000 && winB r.week 1 2000000
def rulE (r : Rul) : Int := if okK r 5 = true then (if r.rest < r.brk then 9 else 0) else 2
theorem rul_ok {r : Rul} (h : rulE r = 0) : RulOk r := by
  unfold rulE at h
  split at h
  · rename_i ho
    simp only [okK, Bool.and_eq_true, winB, decide_eq_true_eq] at ho
    obtain ⟨⟨⟨⟨h1, h2⟩, h3⟩, h4⟩, h5⟩ := ho
    refine ⟨h1, h2, h3, h4, h5, ?_⟩
    split at h
    · cases h
    · omega
  · cases h
set_option maxHeartbeats 16000000 in
theorem rCheckRules_c (r : Rul) : RealCall Try.prog 8 [.agg (cRul r)] (.int .i64 (rulE r)) true := by
  have ca := rWithin_c r.brk 1 2000000
  have cb := rWithin_c r.rest 1 2000000
  have cc := rWithin_c r.stint 1 2000000
  have cd := rWithin_c r.shift 1 2000000
  have ce := rWithin_c r.week 1 2000000
  generalize hR : rulE r = R
  have kR := keep hR
  clear hR
  unfold cRul
  refine realcall_intro Try.func8 (by kernel_rfl) rfl (Nat.le_of_ble_eq_true (by kernel_rfl)) ?_
  simp only [Try.results8, Try.ntmps8]
  repeat' (first | (with_reducible first | refine awp_seq ?_ | refine awp_blockS ?_ | refine awp_blockC ?_ | refine awp_blockR ?_ | refine awp_skip ?_ | refine awp_ret ?_ | refine awp_exit ?_ | refine awp_region ?_ | refine awp_condM ?_ | refine And.intro ?_ ?_ | apply gQ_merge | apply gE_merge | exact EqV_w | exact EqE_w | exact EqV_ptr | exact EqE_ptr | exact EqV_msl | exact EqE_msl | exact EqV_agg | exact EqE_agg | exact EqV_fn | exact EqE_fn | exact EqV_gd | exact EqE_gd | refine gM_splitN ?_ ?_ | refine gM_split ?_ ?_ |  refine condM_splitDN ?_ ?_ | refine condM_splitD ?_ ?_ | refine condM_splitN ?_ ?_ | refine condM_split ?_ ?_ | refine condM_any ?_ ?_ | intro _) | (simp [*]))
  refine awp_for3 (fun (k : Nat) => k ≤ 5 ∧ okK r k = true) [1, 3] (fun (k : Nat) => [(4, .w false false (.int .i64 k))]) [0, 1] (fun (k : Nat) => []) (fun (k : Nat) => 5 - k) (fun (_u : Unit) => okK r 5 = true) [1] (fun (_u : Unit) => []) [0] (fun (_u : Unit) => []) (0) ⟨Nat.zero_le _, rfl⟩ (by simp) (by simp) (fun k hk => ?_) (fun _u hf => ?_)
  · obtain ⟨hk, hj⟩ := hk
    match k, hk, hj with
    | 0, _, hj =>
      have kj := keep hj
      clear hj
      cases hv : winB r.brk 1 2000000 with
      | true =>
        have kn : Keep (okK r 1 = true) := keep (by
          have h : okK r 0 = true := kj
          simp only [okK, Bool.and_eq_true] at h ⊢
          simp [h, hv])
        rw [hv] at ca
        clear hv
        repeat' (first | (with_reducible first | refine awp_seq ?_ | refine awp_blockS ?_ | refine awp_blockC ?_ | refine awp_blockR ?_ | refine awp_skip ?_ | refine awp_ret ?_ | refine awp_exit ?_ | refine awp_region ?_ | refine awp_condM ?_ | refine And.intro ?_ ?_ | apply gQ_merge | apply gE_merge | exact EqV_w | exact EqE_w | exact EqV_ptr | exact EqE_ptr | exact EqV_msl | exact EqE_msl | exact EqV_agg | exact EqE_agg | exact EqV_fn | exact EqE_fn | exact EqV_gd | exact EqE_gd | refine gM_splitN ?_ ?_ | refine gM_split ?_ ?_ |  refine condM_splitDN ?_ ?_ | refine condM_splitD ?_ ?_ | refine condM_splitN ?_ ?_ | refine condM_split ?_ ?_ | refine condM_any ?_ ?_ | refine cw (ca) ?_ | intro _) | (simp [*]) | (refine cw_eq (ca) ?_ ?_; (· (simp [*]; done))))
        all_goals try first | exact inI64 (by omega) (by omega) | omega
        all_goals (refine loopK_normal _ _ _ _ _ 1 _ ?_ (by first | omega | (dsimp only; omega) | (simp; omega)) ?_; (· exact ⟨by omega, kn⟩); (refine le_of ?_ ?_ <;> first | trivial | (simp [*]; done)))
      | false =>
        have e : R = 2 := by
          have h : rulE r = R := kR
          rw [← h]; unfold rulE; rw [if_neg (by simp [okK, hv])]
        subst e
        rw [hv] at ca
        clear hv
        repeat' (first | (with_reducible first | refine awp_seq ?_ | refine awp_blockS ?_ | refine awp_blockC ?_ | refine awp_blockR ?_ | refine awp_skip ?_ | refine awp_ret ?_ | refine awp_exit ?_ | refine awp_region ?_ | refine awp_condM ?_ | refine And.intro ?_ ?_ | apply gQ_merge | apply gE_merge | exact EqV_w | exact EqE_w | exact EqV_ptr | exact EqE_ptr | exact EqV_msl | exact EqE_msl | exact EqV_agg | exact EqE_agg | exact EqV_fn | exact EqE_fn | exact EqV_gd | exact EqE_gd | refine gM_splitN ?_ ?_ | refine gM_split ?_ ?_ |  refine condM_splitDN ?_ ?_ | refine condM_splitD ?_ ?_ | refine condM_splitN ?_ ?_ | refine condM_split ?_ ?_ | refine condM_any ?_ ?_ | refine cw (ca) ?_ | intro _) | (simp [*]) | (refine cw_eq (ca) ?_ ?_; (· (simp [*]; done))))
        all_goals try first | exact inI64 (by omega) (by omega) | omega
    | 1, _, hj =>
      have kj := keep hj
      clear hj
      cases hv : winB r.rest 1 2000000 with
      | true =>
        have kn : Keep (okK r 2 = true) := keep (by
          have h : okK r 1 = true := kj
          simp only [okK, Bool.and_eq_true] at h ⊢
          simp [h, hv])
        rw [hv] at cb
        clear hv
        repeat' (first | (with_reducible first | refine awp_seq ?_ | refine awp_blockS ?_ | refine awp_blockC ?_ | refine awp_blockR ?_ | refine awp_skip ?_ | refine awp_ret ?_ | refine awp_exit ?_ | refine awp_region ?_ | refine awp_condM ?_ | refine And.intro ?_ ?_ | apply gQ_merge | apply gE_merge | exact EqV_w | exact EqE_w | exact EqV_ptr | exact EqE_ptr | exact EqV_msl | exact EqE_msl | exact EqV_agg | exact EqE_agg | exact EqV_fn | exact EqE_fn | exact EqV_gd | exact EqE_gd | refine gM_splitN ?_ ?_ | refine gM_split ?_ ?_ |  refine condM_splitDN ?_ ?_ | refine condM_splitD ?_ ?_ | refine condM_splitN ?_ ?_ | refine condM_split ?_ ?_ | refine condM_any ?_ ?_ | refine cw (cb) ?_ | intro _) | (simp [*]) | (refine cw_eq (cb) ?_ ?_; (· (simp [*]; done))))
        all_goals try first | exact inI64 (by omega) (by omega) | omega
        all_goals (refine loopK_normal _ _ _ _ _ 2 _ ?_ (by first | omega | (dsimp only; omega) | (simp; omega)) ?_; (· exact ⟨by omega, kn⟩); (refine le_of ?_ ?_ <;> first | trivial | (simp [*]; done)))
      | false =>
        have e : R = 2 := by
          have h : rulE r = R := kR
          rw [← h]; unfold rulE; rw [if_neg (by simp [okK, hv])]
        subst e
        rw [hv] at cb
        clear hv
        repeat' (first | (with_reducible first | refine awp_seq ?_ | refine awp_blockS ?_ | refine awp_blockC ?_ | refine awp_blockR ?_ | refine awp_skip ?_ | refine awp_ret ?_ | refine awp_exit ?_ | refine awp_region ?_ | refine awp_condM ?_ | refine And.intro ?_ ?_ | apply gQ_merge | apply gE_merge | exact EqV_w | exact EqE_w | exact EqV_ptr | exact EqE_ptr | exact EqV_msl | exact EqE_msl | exact EqV_agg | exact EqE_agg | exact EqV_fn | exact EqE_fn | exact EqV_gd | exact EqE_gd | refine gM_splitN ?_ ?_ | refine gM_split ?_ ?_ |  refine condM_splitDN ?_ ?_ | refine condM_splitD ?_ ?_ | refine condM_splitN ?_ ?_ | refine condM_split ?_ ?_ | refine condM_any ?_ ?_ | refine cw (cb) ?_ | intro _) | (simp [*]) | (refine cw_eq (cb) ?_ ?_; (· (simp [*]; done))))
        all_goals try first | exact inI64 (by omega) (by omega) | omega
    | 2, _, hj =>
      have kj := keep hj
      clear hj
      cases hv : winB r.stint 1 2000000 with
      | true =>
        have kn : Keep (okK r 3 = true) := keep (by
          have h : okK r 2 = true := kj
          simp only [okK, Bool.and_eq_true] at h ⊢
          simp [h, hv])
        rw [hv] at cc
        clear hv
        repeat' (first | (with_reducible first | refine awp_seq ?_ | refine awp_blockS ?_ | refine awp_blockC ?_ | refine awp_blockR ?_ | refine awp_skip ?_ | refine awp_ret ?_ | refine awp_exit ?_ | refine awp_region ?_ | refine awp_condM ?_ | refine And.intro ?_ ?_ | apply gQ_merge | apply gE_merge | exact EqV_w | exact EqE_w | exact EqV_ptr | exact EqE_ptr | exact EqV_msl | exact EqE_msl | exact EqV_agg | exact EqE_agg | exact EqV_fn | exact EqE_fn | exact EqV_gd | exact EqE_gd | refine gM_splitN ?_ ?_ | refine gM_split ?_ ?_ |  refine condM_splitDN ?_ ?_ | refine condM_splitD ?_ ?_ | refine condM_splitN ?_ ?_ | refine condM_split ?_ ?_ | refine condM_any ?_ ?_ | refine cw (cc) ?_ | intro _) | (simp [*]) | (refine cw_eq (cc) ?_ ?_; (· (simp [*]; done))))
        all_goals try first | exact inI64 (by omega) (by omega) | omega
        all_goals (refine loopK_normal _ _ _ _ _ 3 _ ?_ (by first | omega | (dsimp only; omega) | (simp; omega)) ?_; (· exact ⟨by omega, kn⟩); (refine le_of ?_ ?_ <;> first | trivial | (simp [*]; done)))
      | false =>
        have e : R = 2 := by
          have h : rulE r = R := kR
          rw [← h]; unfold rulE; rw [if_neg (by simp [okK, hv])]
        subst e
        rw [hv] at cc
        clear hv
        repeat' (first | (with_reducible first | refine awp_seq ?_ | refine awp_blockS ?_ | refine awp_blockC ?_ | refine awp_blockR ?_ | refine awp_skip ?_ | refine awp_ret ?_ | refine awp_exit ?_ | refine awp_region ?_ | refine awp_condM ?_ | refine And.intro ?_ ?_ | apply gQ_merge | apply gE_merge | exact EqV_w | exact EqE_w | exact EqV_ptr | exact EqE_ptr | exact EqV_msl | exact EqE_msl | exact EqV_agg | exact EqE_agg | exact EqV_fn | exact EqE_fn | exact EqV_gd | exact EqE_gd | refine gM_splitN ?_ ?_ | refine gM_split ?_ ?_ |  refine condM_splitDN ?_ ?_ | refine condM_splitD ?_ ?_ | refine condM_splitN ?_ ?_ | refine condM_split ?_ ?_ | refine condM_any ?_ ?_ | refine cw (cc) ?_ | intro _) | (simp [*]) | (refine cw_eq (cc) ?_ ?_; (· (simp [*]; done))))
        all_goals try first | exact inI64 (by omega) (by omega) | omega
    | 3, _, hj =>
      have kj := keep hj
      clear hj
      cases hv : winB r.shift 1 2000000 with
      | true =>
        have kn : Keep (okK r 4 = true) := keep (by
          have h : okK r 3 = true := kj
          simp only [okK, Bool.and_eq_true] at h ⊢
          simp [h, hv])
        rw [hv] at cd
        clear hv
        repeat' (first | (with_reducible first | refine awp_seq ?_ | refine awp_blockS ?_ | refine awp_blockC ?_ | refine awp_blockR ?_ | refine awp_skip ?_ | refine awp_ret ?_ | refine awp_exit ?_ | refine awp_region ?_ | refine awp_condM ?_ | refine And.intro ?_ ?_ | apply gQ_merge | apply gE_merge | exact EqV_w | exact EqE_w | exact EqV_ptr | exact EqE_ptr | exact EqV_msl | exact EqE_msl | exact EqV_agg | exact EqE_agg | exact EqV_fn | exact EqE_fn | exact EqV_gd | exact EqE_gd | refine gM_splitN ?_ ?_ | refine gM_split ?_ ?_ |  refine condM_splitDN ?_ ?_ | refine condM_splitD ?_ ?_ | refine condM_splitN ?_ ?_ | refine condM_split ?_ ?_ | refine condM_any ?_ ?_ | refine cw (cd) ?_ | intro _) | (simp [*]) | (refine cw_eq (cd) ?_ ?_; (· (simp [*]; done))))
        all_goals try first | exact inI64 (by omega) (by omega) | omega
        all_goals (refine loopK_normal _ _ _ _ _ 4 _ ?_ (by first | omega | (dsimp only; omega) | (simp; omega)) ?_; (· exact ⟨by omega, kn⟩); (refine le_of ?_ ?_ <;> first | trivial | (simp [*]; done)))
      | false =>
        have e : R = 2 := by
          have h : rulE r = R := kR
          rw [← h]; unfold rulE; rw [if_neg (by simp [okK, hv])]
        subst e
        rw [hv] at cd
        clear hv
        repeat' (first | (with_reducible first | refine awp_seq ?_ | refine awp_blockS ?_ | refine awp_blockC ?_ | refine awp_blockR ?_ | refine awp_skip ?_ | refine awp_ret ?_ | refine awp_exit ?_ | refine awp_region ?_ | refine awp_condM ?_ | refine And.intro ?_ ?_ | apply gQ_merge | apply gE_merge | exact EqV_w | exact EqE_w | exact EqV_ptr | exact EqE_ptr | exact EqV_msl | exact EqE_msl | exact EqV_agg | exact EqE_agg | exact EqV_fn | exact EqE_fn | exact EqV_gd | exact EqE_gd | refine gM_splitN ?_ ?_ | refine gM_split ?_ ?_ |  refine condM_splitDN ?_ ?_ | refine condM_splitD ?_ ?_ | refine condM_splitN ?_ ?_ | refine condM_split ?_ ?_ | refine condM_any ?_ ?_ | refine cw (cd) ?_ | intro _) | (simp [*]) | (refine cw_eq (cd) ?_ ?_; (· (simp [*]; done))))
        all_goals try first | exact inI64 (by omega) (by omega) | omega
    | 4, _, hj =>
      have kj := keep hj
      clear hj
      cases hv : winB r.week 1 2000000 with
      | true =>
        have kn : Keep (okK r 5 = true) := keep (by
          have h : okK r 4 = true := kj
          simp only [okK, Bool.and_eq_true] at h ⊢
          simp [h, hv])
        rw [hv] at ce
        clear hv
        repeat' (first | (with_reducible first | refine awp_seq ?_ | refine awp_blockS ?_ | refine awp_blockC ?_ | refine awp_blockR ?_ | refine awp_skip ?_ | refine awp_ret ?_ | refine awp_exit ?_ | refine awp_region ?_ | refine awp_condM ?_ | refine And.intro ?_ ?_ | apply gQ_merge | apply gE_merge | exact EqV_w | exact EqE_w | exact EqV_ptr | exact EqE_ptr | exact EqV_msl | exact EqE_msl | exact EqV_agg | exact EqE_agg | exact EqV_fn | exact EqE_fn | exact EqV_gd | exact EqE_gd | refine gM_splitN ?_ ?_ | refine gM_split ?_ ?_ |  refine condM_splitDN ?_ ?_ | refine condM_splitD ?_ ?_ | refine condM_splitN ?_ ?_ | refine condM_split ?_ ?_ | refine condM_any ?_ ?_ | refine cw (ce) ?_ | intro _) | (simp [*]) | (refine cw_eq (ce) ?_ ?_; (· (simp [*]; done))))
        all_goals try first | exact inI64 (by omega) (by omega) | omega
        all_goals (refine loopK_normal _ _ _ _ _ 5 _ ?_ (by first | omega | (dsimp only; omega) | (simp; omega)) ?_; (· exact ⟨by omega, kn⟩); (refine le_of ?_ ?_ <;> first | trivial | (simp [*]; done)))
      | false =>
        have e : R = 2 := by
          have h : rulE r = R := kR
          rw [← h]; unfold rulE; rw [if_neg (by simp [okK, hv])]
        subst e
        rw [hv] at ce
        clear hv
        repeat' (first | (with_reducible first | refine awp_seq ?_ | refine awp_blockS ?_ | refine awp_blockC ?_ | refine awp_blockR ?_ | refine awp_skip ?_ | refine awp_ret ?_ | refine awp_exit ?_ | refine awp_region ?_ | refine awp_condM ?_ | refine And.intro ?_ ?_ | apply gQ_merge | apply gE_merge | exact EqV_w | exact EqE_w | exact EqV_ptr | exact EqE_ptr | exact EqV_msl | exact EqE_msl | exact EqV_agg | exact EqE_agg | exact EqV_fn | exact EqE_fn | exact EqV_gd | exact EqE_gd | refine gM_splitN ?_ ?_ | refine gM_split ?_ ?_ |  refine condM_splitDN ?_ ?_ | refine condM_splitD ?_ ?_ | refine condM_splitN ?_ ?_ | refine condM_split ?_ ?_ | refine condM_any ?_ ?_ | refine cw (ce) ?_ | intro _) | (simp [*]) | (refine cw_eq (ce) ?_ ?_; (· (simp [*]; done))))
        all_goals try first | exact inI64 (by omega) (by omega) | omega
    | 5, _, hj =>
      have kj := keep hj
      clear hj
      repeat' (first | (with_reducible first | refine awp_seq ?_ | refine awp_blockS ?_ | refine awp_blockC ?_ | refine awp_blockR ?_ | refine awp_skip ?_ | refine awp_ret ?_ | refine awp_exit ?_ | refine awp_region ?_ | refine awp_condM ?_ | refine And.intro ?_ ?_ | apply gQ_merge | apply gE_merge | exact EqV_w | exact EqE_w | exact EqV_ptr | exact EqE_ptr | exact EqV_msl | exact EqE_msl | exact EqV_agg | exact EqE_agg | exact EqV_fn | exact EqE_fn | exact EqV_gd | exact EqE_gd | refine gM_splitN ?_ ?_ | refine gM_split ?_ ?_ |  refine condM_splitDN ?_ ?_ | refine condM_splitD ?_ ?_ | refine condM_splitN ?_ ?_ | refine condM_split ?_ ?_ | refine condM_any ?_ ?_ | intro _) | (simp [*]))
      all_goals (refine finW_intro () ?_ ?_; (· exact kj); (refine le_of ?_ ?_ <;> first | trivial | (simp [*]; done)))
  · have kf := keep hf
    clear hf
    by_cases hb : r.rest < r.brk
    · have e : R = 9 := by have h : rulE r = R := kR; rw [← h]; unfold rulE; rw [if_pos (show okK r 5 = true from kf), if_pos hb]
      subst e
      repeat' (first | (with_reducible first | refine awp_seq ?_ | refine awp_blockS ?_ | refine awp_blockC ?_ | refine awp_blockR ?_ | refine awp_skip ?_ | refine awp_ret ?_ | refine awp_exit ?_ | refine awp_region ?_ | refine awp_condM ?_ | refine And.intro ?_ ?_ | apply gQ_merge | apply gE_merge | exact EqV_w | exact EqE_w | exact EqV_ptr | exact EqE_ptr | exact EqV_msl | exact EqE_msl | exact EqV_agg | exact EqE_agg | exact EqV_fn | exact EqE_fn | exact EqV_gd | exact EqE_gd | refine gM_splitN ?_ ?_ | refine gM_split ?_ ?_ |  refine condM_splitDN ?_ ?_ | refine condM_splitD ?_ ?_ | refine condM_splitN ?_ ?_ | refine condM_split ?_ ?_ | refine condM_any ?_ ?_ | intro _) | (simp [*, hb]))
    · have e : R = 0 := by have h : rulE r = R := kR; rw [← h]; unfold rulE; rw [if_pos (show okK r 5 = true from kf), if_neg hb]
      subst e
      repeat' (first | (with_reducible first | refine awp_seq ?_ | refine awp_blockS ?_ | refine awp_blockC ?_ | refine awp_blockR ?_ | refine awp_skip ?_ | refine awp_ret ?_ | refine awp_exit ?_ | refine awp_region ?_ | refine awp_condM ?_ | refine And.intro ?_ ?_ | apply gQ_merge | apply gE_merge | exact EqV_w | exact EqE_w | exact EqV_ptr | exact EqE_ptr | exact EqV_msl | exact EqE_msl | exact EqV_agg | exact EqE_agg | exact EqV_fn | exact EqE_fn | exact EqV_gd | exact EqE_gd | refine gM_splitN ?_ ?_ | refine gM_split ?_ ?_ |  refine condM_splitDN ?_ ?_ | refine condM_splitD ?_ ?_ | refine condM_splitN ?_ ?_ | refine condM_split ?_ ?_ | refine condM_any ?_ ?_ | intro _) | (simp [*, hb]))
end Go.Proofs.Ytgoemokfpfnlkaa
namespace Go.Proofs.Ytgoemokfpfnlkaa
open Go Go.Fi
set_option maxRecDepth 20000

def endS (l : List Rec) : Int := if l.length = 0 then 0 else (nth l (l.length - 1)).to
theorem dEnd_c (r : Rul) (l : List Rec) (hl : l.length < 1000) : RealCall Try.prog 49 [work r l] (.int .i64 (endS l)) true := by
  unfold endS
  by_cases h : l.length = 0
  · rw [if_pos h]
    have hI : (l.length : Int) = 0 := by omega
    unfold work cRul
    refine realcall_intro Try.func49 (by kernel_rfl) rfl (Nat.le_of_ble_eq_true (by kernel_rfl)) ?_
    simp only [Try.results49, Try.ntmps49]
    repeat' (first | (with_reducible first | refine awp_seq ?_ | refine awp_blockS ?_ | refine awp_blockC ?_ | refine awp_blockR ?_ | refine awp_skip ?_ | refine awp_ret ?_ | refine awp_exit ?_ | refine awp_region ?_ | refine awp_condM ?_ | refine And.intro ?_ ?_ | apply gQ_merge | apply gE_merge | exact EqV_w | exact EqE_w | exact EqV_ptr | exact EqE_ptr | exact EqV_msl | exact EqE_msl | exact EqV_agg | exact EqE_agg | exact EqV_fn | exact EqE_fn | exact EqV_gd | exact EqE_gd | refine gM_splitN ?_ ?_ | refine gM_split ?_ ?_ |  refine condM_splitDN ?_ ?_ | refine condM_splitD ?_ ?_ | refine condM_splitN ?_ ?_ | refine condM_split ?_ ?_ | refine condM_any ?_ ?_ | intro _) | (simp [*, hI]))
  · rw [if_neg h]
    obtain ⟨m, hm⟩ : ∃ m, l.length = m + 1 := ⟨l.length - 1, by omega⟩
    have e0 : l.length - 1 = m := by omega
    rw [e0]
    have hI : ¬ (l.length : Int) = 0 := by omega
    have hJ : (l.length : Int) - 1 = (m : Int) := by omega
    have hml : m < l.length := by omega
    have hmI : (m : Int) < (l.length : Int) := by omega
    have hne : ¬ l = [] := fun e => h (by rw [e]; rfl)
    clear hm e0 h
    unfold work cRul
    refine realcall_intro Try.func49 (by kernel_rfl) rfl (Nat.le_of_ble_eq_true (by kernel_rfl)) ?_
    simp only [Try.results49, Try.ntmps49]
    repeat' (first | (with_reducible first | refine awp_seq ?_ | refine awp_blockS ?_ | refine awp_blockC ?_ | refine awp_blockR ?_ | refine awp_skip ?_ | refine awp_ret ?_ | refine awp_exit ?_ | refine awp_region ?_ | refine awp_condM ?_ | refine And.intro ?_ ?_ | apply gQ_merge | apply gE_merge | exact EqV_w | exact EqE_w | exact EqV_ptr | exact EqE_ptr | exact EqV_msl | exact EqE_msl | exact EqV_agg | exact EqE_agg | exact EqV_fn | exact EqE_fn | exact EqV_gd | exact EqE_gd | refine gM_splitN ?_ ?_ | refine gM_split ?_ ?_ |  refine condM_splitDN ?_ ?_ | refine condM_splitD ?_ ?_ | refine condM_splitN ?_ ?_ | refine condM_split ?_ ?_ | refine condM_any ?_ ?_ | intro _) | (simp [*, hI, hJ, hml, hmI, hne]))
    all_goals try first | exact inI64 (by omega) (by omega) | omega
theorem dopen_c (r : Rul) (l : List Rec) (hr : RulOk r) (hl : RecsOk l) : RealCall Try.prog 43 [.agg (cRul r), .sl l.length (cRecs l)] (.tup [work r l, .int .i64 0]) false := by
  have c1 := checkRules_c r hr
  have c2 := recsErr_c l hl
  clear hr hl
  unfold work cRul at *
  refine realcall_intro Try.func43 (by kernel_rfl) rfl (Nat.le_of_ble_eq_true (by kernel_rfl)) ?_
  simp only [Try.results43, Try.ntmps43]
  repeat' (first | (with_reducible first | refine awp_seq ?_ | refine awp_blockS ?_ | refine awp_blockC ?_ | refine awp_blockR ?_ | refine awp_skip ?_ | refine awp_ret ?_ | refine awp_exit ?_ | refine awp_region ?_ | refine awp_condM ?_ | refine And.intro ?_ ?_ | apply gQ_merge | apply gE_merge | exact EqV_w | exact EqE_w | exact EqV_ptr | exact EqE_ptr | exact EqV_msl | exact EqE_msl | exact EqV_agg | exact EqE_agg | exact EqV_fn | exact EqE_fn | exact EqV_gd | exact EqE_gd | refine gM_splitN ?_ ?_ | refine gM_split ?_ ?_ |  refine condM_splitDN ?_ ?_ | refine condM_splitD ?_ ?_ | refine condM_splitN ?_ ?_ | refine condM_split ?_ ?_ | refine condM_any ?_ ?_ | refine cw (c1) ?_ | refine cw (c2) ?_ | intro _) | (simp [*]) | (refine cw_eq (c1) ?_ ?_; (· (simp [*]; done))) | (refine cw_eq (c2) ?_ ?_; (· (simp [*]; done))))
theorem isTake_t {n : Int} (h : 0 ≤ n ∧ n ≤ 200000) : RealCall Try.prog 44 [.int .i64 n] (.bool true) true := by
  have cw := dWithin_t h
  clear h
  refine realcall_intro Try.func44 (by kernel_rfl) rfl (Nat.le_of_ble_eq_true (by kernel_rfl)) ?_
  simp only [Try.results44, Try.ntmps44]
  repeat' (first | (with_reducible first | refine awp_seq ?_ | refine awp_blockS ?_ | refine awp_blockC ?_ | refine awp_blockR ?_ | refine awp_skip ?_ | refine awp_ret ?_ | refine awp_exit ?_ | refine awp_region ?_ | refine awp_condM ?_ | refine And.intro ?_ ?_ | apply gQ_merge | apply gE_merge | exact EqV_w | exact EqE_w | exact EqV_ptr | exact EqE_ptr | exact EqV_msl | exact EqE_msl | exact EqV_agg | exact EqE_agg | exact EqV_fn | exact EqE_fn | exact EqV_gd | exact EqE_gd | refine gM_splitN ?_ ?_ | refine gM_split ?_ ?_ |  refine condM_splitDN ?_ ?_ | refine condM_splitD ?_ ?_ | refine condM_splitN ?_ ?_ | refine condM_split ?_ ?_ | refine condM_any ?_ ?_ | refine cw (cw) ?_ | intro _) | (simp [*]) | (refine cw_eq (cw) ?_ ?_; (· (simp [*]; done))))
theorem isTime_t {n : Int} (h : 0 ≤ n ∧ n ≤ 8640000000) : RealCall Try.prog 48 [.int .i64 n] (.bool true) true := by
  have := isTime_c n
  rwa [winB_t h] at this
theorem dFirst6_0 : RealCall Try.prog 46 [.sl 6 [.int .i64 0, .int .i64 0, .int .i64 0, .int .i64 0, .int .i64 0, .int .i64 0]] (.int .i64 0) true := dFirst6_c 0 0 0 0 0 0
/-- a state in which a trip is asked -/
structure AskOk (r : Rul) (l : List Rec) (s : Int) : Prop where
  rr : RulOk r
  ll : RecsOk l
  bb : Bnd l
  ss : 0 ≤ s ∧ s ≤ 8640000000
  ee : endS l ≤ s
  ff : ∀ k, k < l.length → brkS r (l.take (k + 1)) = 0
set_option maxHeartbeats 16000000 in
theorem openTrip_d (r : Rul) (l : List Rec) (s lo hi : Int) (h : AskOk r l s) (h1 : 0 ≤ lo) (h2 : lo ≤ hi) (h3 : hi ≤ 200000) : RealCall Try.prog 26 [.agg (cRul r), .sl l.length (cRecs l), trp s lo hi (-1)] (.tup [work r l, .int .i64 0]) false := by
  have hlen := h.ll.len
  have co := dopen_c r l h.rr h.ll
  have ce := dEnd_c r l (by omega)
  have cf := firstBroken_c r l h.bb h.ff
  have ct := isTime_t h.ss
  have c1 := isTake_t (n := lo) (by omega)
  have c2 := isTake_t (n := hi) (by omega)
  have he := h.ee
  have hlI : (l.length : Int) < 40 := by omega
  clear h
  generalize endS l = e at *
  unfold work cRul trp at *
  refine realcall_intro Try.func26 (by kernel_rfl) rfl (Nat.le_of_ble_eq_true (by kernel_rfl)) ?_
  simp only [Try.results26, Try.ntmps26]
  repeat' (first | (with_reducible first | refine awp_seq ?_ | refine awp_blockS ?_ | refine awp_blockC ?_ | refine awp_blockR ?_ | refine awp_skip ?_ | refine awp_ret ?_ | refine awp_exit ?_ | refine awp_region ?_ | refine awp_regionD (id := 3) 48 mixed (by decide +kernel) ?_ | refine awp_regionD (id := 6) 6 mixed (by decide +kernel) ?_ | refine awp_condM ?_ | refine And.intro ?_ ?_ | apply gQ_merge | apply gE_merge | exact EqV_w | exact EqE_w | exact EqV_ptr | exact EqE_ptr | exact EqV_msl | exact EqE_msl | exact EqV_agg | exact EqE_agg | exact EqV_fn | exact EqE_fn | exact EqV_gd | exact EqE_gd | refine gM_splitN ?_ ?_ | refine gM_split ?_ ?_ |  refine condM_splitDN ?_ ?_ | refine condM_splitD ?_ ?_ | refine condM_splitN ?_ ?_ | refine condM_split ?_ ?_ | refine condM_any ?_ ?_ | refine cw (co) ?_ | refine cw (ct) ?_ | refine cw (c1) ?_ | refine cw (c2) ?_ | refine cw (ce) ?_ | refine cw (dUnless_t _) ?_ | refine cw (dFirst6_0) ?_ | refine cw (cf) ?_ | intro _) | (simp [*, hlI, h2, he]) | (refine cw_eq (co) ?_ ?_; (· (simp [*]; done))) | (refine cw_eq (ct) ?_ ?_; (· (simp [*]; done))) | (refine cw_eq (c1) ?_ ?_; (· (simp [*]; done))) | (refine cw_eq (c2) ?_ ?_; (· (simp [*]; done))) | (refine cw_eq (ce) ?_ ?_; (· (simp [*]; done))) | (refine cw_eq (dUnless_t _) ?_ ?_; (· (simp [*]; done))) | (refine cw_eq (dFirst6_0) ?_ ?_; (· (simp [*]; done))) | (refine cw_eq (cf) ?_ ?_; (· (simp [*]; done))))
set_option maxHeartbeats 8000000 in
theorem allowed_c (r : Rul) (l : List Rec) (s lo hi : Int) (h : AskOk r l s) (h1 : 0 ≤ lo) (h2 : lo ≤ hi) (h3 : hi ≤ 200000) : RealCall Try.prog 12 [.agg (cRul r), .sl l.length (cRecs l), trp s lo hi (-1)]
    (.tup [.int .i64 (if brsS r l s hi = 0 then 2 else if brsS r l s lo = 0 then 1 else 0), .int .i64 (brsS r l s hi), .int .i64 0]) true := by
  have co := openTrip_d r l s lo hi h h1 h2 h3
  have cb := breaks_c r l h.bb (by have := h.ll.len; omega) s lo hi hi h.ss (by omega)
  have ca := breaks_c r l h.bb (by have := h.ll.len; omega) s lo hi lo h.ss (by omega)
  clear h
  generalize brsS r l s hi = bh at *
  generalize brsS r l s lo = bl at *
  unfold work cRul trp at *
  by_cases e1 : bh = 0
  · subst e1
    refine realcall_intro Try.func12 (by kernel_rfl) rfl (Nat.le_of_ble_eq_true (by kernel_rfl)) ?_
    simp only [Try.results12, Try.ntmps12]
    repeat' (first | (with_reducible first | refine awp_seq ?_ | refine awp_blockS ?_ | refine awp_blockC ?_ | refine awp_blockR ?_ | refine awp_skip ?_ | refine awp_ret ?_ | refine awp_exit ?_ | refine awp_region ?_ | refine awp_condM ?_ | refine And.intro ?_ ?_ | apply gQ_merge | apply gE_merge | exact EqV_w | exact EqE_w | exact EqV_ptr | exact EqE_ptr | exact EqV_msl | exact EqE_msl | exact EqV_agg | exact EqE_agg | exact EqV_fn | exact EqE_fn | exact EqV_gd | exact EqE_gd | refine gM_splitN ?_ ?_ | refine gM_split ?_ ?_ |  refine condM_splitDN ?_ ?_ | refine condM_splitD ?_ ?_ | refine condM_splitN ?_ ?_ | refine condM_split ?_ ?_ | refine condM_any ?_ ?_ | refine cw (co) ?_ | refine cw (cb) ?_ | intro _) | (simp [*]) | (refine cw_eq (co) ?_ ?_; (· (simp [*]; done))) | (refine cw_eq (cb) ?_ ?_; (· (simp [*]; done))))
  · by_cases e2 : bl = 0
    · subst e2
      refine realcall_intro Try.func12 (by kernel_rfl) rfl (Nat.le_of_ble_eq_true (by kernel_rfl)) ?_
      simp only [Try.results12, Try.ntmps12]
      repeat' (first | (with_reducible first | refine awp_seq ?_ | refine awp_blockS ?_ | refine awp_blockC ?_ | refine awp_blockR ?_ | refine awp_skip ?_ | refine awp_ret ?_ | refine awp_exit ?_ | refine awp_region ?_ | refine awp_condM ?_ | refine And.intro ?_ ?_ | apply gQ_merge | apply gE_merge | exact EqV_w | exact EqE_w | exact EqV_ptr | exact EqE_ptr | exact EqV_msl | exact EqE_msl | exact EqV_agg | exact EqE_agg | exact EqV_fn | exact EqE_fn | exact EqV_gd | exact EqE_gd | refine gM_splitN ?_ ?_ | refine gM_split ?_ ?_ |  refine condM_splitDN ?_ ?_ | refine condM_splitD ?_ ?_ | refine condM_splitN ?_ ?_ | refine condM_split ?_ ?_ | refine condM_any ?_ ?_ | refine cw (co) ?_ | refine cw (cb) ?_ | refine cw (ca) ?_ | intro _) | (simp [*, e1]) | (refine cw_eq (co) ?_ ?_; (· (simp [*]; done))) | (refine cw_eq (cb) ?_ ?_; (· (simp [*]; done))) | (refine cw_eq (ca) ?_ ?_; (· (simp [*]; done))))
    · refine realcall_intro Try.func12 (by kernel_rfl) rfl (Nat.le_of_ble_eq_true (by kernel_rfl)) ?_
      simp only [Try.results12, Try.ntmps12]
      repeat' (first | (with_reducible first | refine awp_seq ?_ | refine awp_blockS ?_ | refine awp_blockC ?_ | refine awp_blockR ?_ | refine awp_skip ?_ | refine awp_ret ?_ | refine awp_exit ?_ | refine awp_region ?_ | refine awp_condM ?_ | refine And.intro ?_ ?_ | apply gQ_merge | apply gE_merge | exact EqV_w | exact EqE_w | exact EqV_ptr | exact EqE_ptr | exact EqV_msl | exact EqE_msl | exact EqV_agg | exact EqE_agg | exact EqV_fn | exact EqE_fn | exact EqV_gd | exact EqE_gd | refine gM_splitN ?_ ?_ | refine gM_split ?_ ?_ |  refine condM_splitDN ?_ ?_ | refine condM_splitD ?_ ?_ | refine condM_splitN ?_ ?_ | refine condM_split ?_ ?_ | refine condM_any ?_ ?_ | refine cw (co) ?_ | refine cw (cb) ?_ | refine cw (ca) ?_ | intro _) | (simp [*, e1, e2]) | (refine cw_eq (co) ?_ ?_; (· (simp [*]; done))) | (refine cw_eq (cb) ?_ ?_; (· (simp [*]; done))) | (refine cw_eq (ca) ?_ ?_; (· (simp [*]; done))))
theorem brk1_c (r : Rul) (l : List Rec) (s : Int) (h : AskOk r l s) (n : Nat) (hn : n ≤ 300000) : RealCall Try.prog 29 [.int .i64 n, .ip (cRul r ++ [.sl l.length (cRecs l)]) 0, .ip [.int .i64 s, .int .i64 0, .int .i64 0, .int .i64 (-1)] 0] (.bool (!decide (brsS r l s n = 0))) true := by
  have cb := breaks_c r l h.bb (by have := h.ll.len; omega) s 0 0 n h.ss (by omega)
  clear h
  generalize brsS r l s n = b at *
  unfold work cRul trp at *
  refine realcall_intro Try.func29 (by kernel_rfl) rfl (Nat.le_of_ble_eq_true (by kernel_rfl)) ?_
  simp only [Try.results29, Try.ntmps29]
  repeat' (first | (with_reducible first | refine awp_seq ?_ | refine awp_blockS ?_ | refine awp_blockC ?_ | refine awp_blockR ?_ | refine awp_skip ?_ | refine awp_ret ?_ | refine awp_exit ?_ | refine awp_region ?_ | refine awp_condM ?_ | refine And.intro ?_ ?_ | apply gQ_merge | apply gE_merge | exact EqV_w | exact EqE_w | exact EqV_ptr | exact EqE_ptr | exact EqV_msl | exact EqE_msl | exact EqV_agg | exact EqE_agg | exact EqV_fn | exact EqE_fn | exact EqV_gd | exact EqE_gd | refine gM_splitN ?_ ?_ | refine gM_split ?_ ?_ |  refine condM_splitDN ?_ ?_ | refine condM_splitD ?_ ?_ | refine condM_splitN ?_ ?_ | refine condM_split ?_ ?_ | refine condM_any ?_ ?_ | refine cw (cb) ?_ | intro _) | (simp [*]) | (refine cw_eq (cb) ?_ ?_; (· (simp [*]; done))))
set_option maxHeartbeats 8000000 in
theorem longest_c (r : Rul) (l : List Rec) (s : Int) (h : AskOk r l s) : RealCall Try.prog 13 [.agg (cRul r), .sl l.length (cRecs l), .int .i64 s]
    (.tup [.int .i64 ((searchF (fun n => !decide (brsS r l s (n : Int) = 0)) 200001 0 200001 : Nat) - 1), .int .i64 0]) true := by
  have co := openTrip_d r l s 0 0 h (by omega) (by omega) (by omega)
  have cs := search_c 200001 (by decide) 29 [.ip (cRul r ++ [.sl l.length (cRecs l)]) 0, .ip [.int .i64 s, .int .i64 0, .int .i64 0, .int .i64 (-1)] 0] (fun n => !decide (brsS r l s (n : Int) = 0)) (fun k hk => brk1_c r l s h k (by omega))
  clear h
  generalize hS : searchF (fun n => !decide (brsS r l s (n : Int) = 0)) 200001 0 200001 = S at *
  have hS2 : S ≤ 1000000 := by rw [← hS]; exact searchF_le _ _ _ _ (by omega) (by omega)
  clear hS
  unfold work cRul trp at *
  refine realcall_intro Try.func13 (by kernel_rfl) rfl (Nat.le_of_ble_eq_true (by kernel_rfl)) ?_
  simp only [Try.results13, Try.ntmps13]
  repeat' (first | (with_reducible first | refine awp_seq ?_ | refine awp_blockS ?_ | refine awp_blockC ?_ | refine awp_blockR ?_ | refine awp_skip ?_ | refine awp_ret ?_ | refine awp_exit ?_ | refine awp_region ?_ | refine awp_condM ?_ | refine And.intro ?_ ?_ | apply gQ_merge | apply gE_merge | exact EqV_w | exact EqE_w | exact EqV_ptr | exact EqE_ptr | exact EqV_msl | exact EqE_msl | exact EqV_agg | exact EqE_agg | exact EqV_fn | exact EqE_fn | exact EqV_gd | exact EqE_gd | refine gM_splitN ?_ ?_ | refine gM_split ?_ ?_ |  refine condM_splitDN ?_ ?_ | refine condM_splitD ?_ ?_ | refine condM_splitN ?_ ?_ | refine condM_split ?_ ?_ | refine condM_any ?_ ?_ | refine cw (co) ?_ | refine cw (cs) ?_ | intro _) | (simp [*]) | (refine cw_eq (co) ?_ ?_; (· (simp [*]; done))) | (refine cw_eq (cs) ?_ ?_; (· (simp [*]; done))))
  all_goals try first | exact inI64 (by omega) (by omega) | omega
end Go.Proofs.Ytgoemokfpfnlkaa
