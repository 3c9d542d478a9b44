/- Contracts of functions for this claim: lemmas alone. -/
import Derived.Test.YtfpamehamllndaaGreatDoorP20
set_option linter.unusedSimpArgs false
set_option linter.unusedVariables false
namespace Go.Proofs.YtfpamehamllndaaGreatDoor
open Go Go.Fi

abbrev tL (t : Trip) : List PV := [.int .i64 t.frm, .int .i64 t.to, .int .i64 t.at_]
def tE (n : Net) (t : Trip) : Int := firstS [errUnless (winB t.frm 0 (n.places.length - 1)) 6, errUnless (winB t.to 0 (n.places.length - 1)) 6, errUnless (winB t.at_ 0 604800) 2]
def otE (n : Net) (t : Trip) : Int := firstS [(netS n).2.2, tE n t]
theorem openTrip_c (n : Net) (h : NetIn n) (t : Trip) : RealCall Tryz.prog 40 [aNet n, .agg (tL t)] (.tup [aNet n, .int .i64 (otE n t)]) false := by
  have co := open_c n h
  have ct : RealCall Tryz.prog 66 [aNet n, .agg (tL t)] (.int .i64 (tE n t)) true := tripErr_c n t h.np
  unfold aNet cNet at *
  refine realcall_intro Tryz.func40 (by kernel_rfl) rfl (Nat.le_of_ble_eq_true (by kernel_rfl)) ?_
  simp only [Tryz.results40, Tryz.ntmps40]
  repeat' (first | (with_reducible first | refine awp_seq ?_ | refine awp_ret ?_ | refine awp_region ?_ | refine awp_regionD (id := 2) 7 mixed (by decide +kernel) ?_ | refine And.intro ?_ ?_ | refine cw (co) ?_ | refine cw (ct) ?_ | refine cw (first2_c _ _) ?_ | intro _) | (simp [*, otE]))
structure TripOk (n : Net) (t : Trip) (a b : Nat) : Prop where
  ok : NetOk n
  la : a < n.places.length
  lb : b < n.places.length
  fa : t.frm = a
  fb : t.to = b
  lo : 0 ≤ t.at_
  hi : t.at_ ≤ 604800
theorem trip_ok {n : Net} (h : NetIn n) {t : Trip} (he : otE n t = 0) : ∃ a b, TripOk n t a b := by
  have e1 : (netS n).2.2 = 0 := firstS_nth he 0 (show (0 : Nat) < 2 by omega)
  have e2 : tE n t = 0 := firstS_nth he 1 (show (1 : Nat) < 2 by omega)
  have w1 := win_of (unless_zero (by decide) (firstS_nth e2 0 (show (0 : Nat) < 3 by omega)))
  have w2 := win_of (unless_zero (by decide) (firstS_nth e2 1 (show (1 : Nat) < 3 by omega)))
  have w3 := win_of (unless_zero (by decide) (firstS_nth e2 2 (show (2 : Nat) < 3 by omega)))
  have ok := net_ok h e1
  exact ⟨t.frm.toNat, t.to.toNat, ok, by omega, by omega, by omega, by omega, w3.1, w3.2⟩
def estS (n : Net) (t : Trip) : Tri :=
  if otE n t ≠ 0 then (0, 0, otE n t)
  else if nth (growS (fTime false) n t.frm.toNat t.at_).l t.to.toNat = -1 then (0, 0, 12)
  else (nth (growS (fTime false) n t.frm.toNat t.at_).l t.to.toNat, nth (growS (fTime true) n t.frm.toNat t.at_).l t.to.toNat, 0)
set_option maxHeartbeats 4000000 in
theorem estimate_c (n : Net) (h : NetIn n) (t : Trip) : RealCall Tryz.prog 15 [aNet n, .agg (tL t)] (markP (estS n t)) true := by
  have co := openTrip_c n h t
  unfold estS
  by_cases he : otE n t = 0
  · obtain ⟨a, b, ok⟩ := trip_ok h he
    rw [if_neg (by simp [he])]
    have c0 : RealCall Tryz.prog 41 [aNet n, .int .i64 a, .int .i64 t.at_, .fn 38 []] (treeP n (growS (fTime false) n a t.at_)) true := arrivals_c n ok.ok a ok.la t.at_ ok.lo (by have := ok.hi; omega) false
    have c1 : RealCall Tryz.prog 41 [aNet n, .int .i64 a, .int .i64 t.at_, .fn 39 []] (treeP n (growS (fTime true) n a t.at_)) true := arrivals_c n ok.ok a ok.la t.at_ ok.lo (by have := ok.hi; omega) true
    have l0 := (growS_inv ok.ok (along_time ok.ok false) ok.la ok.lo (by have := ok.hi; omega)).ll
    have l1 := (growS_inv ok.ok (along_time ok.ok true) ok.la ok.lo (by have := ok.hi; omega)).ll
    have hb := ok.lb
    obtain ⟨t1, t2, t3⟩ := t
    obtain rfl : t1 = a := ok.fa
    obtain rfl : t2 = b := ok.fb
    dsimp only at *
    rw [Int.toNat_natCast, Int.toNat_natCast]
    generalize growS (fTime false) n a t3 = s0 at *
    generalize growS (fTime true) n a t3 = s1 at *
    unfold treeP at c0 c1
    unfold aNet cNet markP at *
    clear ok h
    by_cases hn : nth s0.l b = -1
    · rw [if_pos hn]
      refine realcall_intro Tryz.func15 (by kernel_rfl) rfl (Nat.le_of_ble_eq_true (by kernel_rfl)) ?_
      simp only [Tryz.results15, Tryz.ntmps15]
      repeat' (first | (with_reducible first | refine awp_seq ?_ | refine awp_skip ?_ | refine awp_ret ?_ | refine awp_region ?_ | refine awp_regionD (id := 4) 24 mixed (by decide +kernel) ?_ | refine awp_condM ?_ | refine And.intro ?_ ?_ | refine cw (co) ?_ | refine cw (c0) ?_ | refine cw (c1) ?_ | intro _) | (simp [*, he, hb, l0, l1, hn]))
      all_goals try omega
    · rw [if_neg hn]
      refine realcall_intro Tryz.func15 (by kernel_rfl) rfl (Nat.le_of_ble_eq_true (by kernel_rfl)) ?_
      simp only [Tryz.results15, Tryz.ntmps15]
      repeat' (first | (with_reducible first | refine awp_seq ?_ | refine awp_skip ?_ | refine awp_ret ?_ | refine awp_region ?_ | refine awp_regionD (id := 4) 24 mixed (by decide +kernel) ?_ | refine awp_condM ?_ | refine And.intro ?_ ?_ | refine cw (co) ?_ | refine cw (c0) ?_ | refine cw (c1) ?_ | intro _) | (simp [*, he, hb, l0, l1, hn]))
      all_goals try omega
  · rw [if_pos he]
    unfold aNet cNet markP at *
    refine realcall_intro Tryz.func15 (by kernel_rfl) rfl (Nat.le_of_ble_eq_true (by kernel_rfl)) ?_
    simp only [Tryz.results15, Tryz.ntmps15]
    repeat' (first | (with_reducible first | refine awp_seq ?_ | refine awp_ret ?_ | refine awp_region ?_ | refine awp_condM ?_ | refine And.intro ?_ ?_ | refine cw (co) ?_ | intro _) | (simp [*, he]))
def pE (n : Net) (a b : Int) : Int := firstS [(netS n).2.2, errUnless (winB a 0 (n.places.length - 1)) 6, errUnless (winB b 0 (n.places.length - 1)) 6]
structure PairOk (n : Net) (x y : Int) (a b : Nat) : Prop where
  ok : NetOk n
  la : a < n.places.length
  lb : b < n.places.length
  fa : x = a
  fb : y = b
/- a shortest way: where the roads behind each other come to an end -/
set_option maxHeartbeats 4000000 in
theorem shortest_ok (n : Net) (h : NetIn n) (x y : Int) (a b : Nat) (ok : PairOk n x y a b) (he : pE n x y = 0) (hn : nth (growS fLen n a 0).l b ≠ -1) (m : Nat) (hm : m < 100000) (R : List Int) (hR : backF n (growS fLen n a 0).b m b = some R) :
    RealCall Tryz.prog 16 [aNet n, .int .i64 x, .int .i64 y] (.tup [.sl R.length (ints R.reverse), .int .i64 (nth (growS fLen n a 0).l b), .int .i64 0]) true := by
  have co := open_c n h
  have pa := placeErr_c n x h.np
  have pb := placeErr_c n y h.np
  have hi := growS_inv ok.ok (along_len ok.ok) ok.la (Int.le_refl 0) (by omega)
  have ch : RealCall Tryz.prog 43 [aNet n, .int .i64 a] (treeP n (growS fLen n a 0)) true := heights_c n ok.ok a ok.la
  have cy := way_c n ok.ok _ hi b ok.lb m hm R hR
  have l0 := hi.ll
  have hb := ok.lb
  have fa := ok.fa
  have fb := ok.fb
  have he' := he
  unfold pE at he'
  clear hi ok h he
  generalize growS fLen n a 0 = s0 at *
  unfold treeP at ch cy
  unfold aNet cNet at *
  subst fa
  subst fb
  refine realcall_intro Tryz.func16 (by kernel_rfl) rfl (Nat.le_of_ble_eq_true (by kernel_rfl)) ?_
  simp only [Tryz.results16, Tryz.ntmps16]
  repeat' (first | (with_reducible first | refine awp_seq ?_ | refine awp_skip ?_ | refine awp_ret ?_ | refine awp_region ?_ | refine awp_regionD (id := 2) 9 mixed (by decide +kernel) ?_ | refine awp_regionD (id := 8) 12 mixed (by decide +kernel) ?_ | refine awp_condM ?_ | refine And.intro ?_ ?_ | refine cw (co) ?_ | refine cw (pa) ?_ | refine cw (pb) ?_ | refine cw (first3_c _ _ _) ?_ | refine cw (ch) ?_ | refine cw (cy) ?_ | intro _) | (simp [*, he', hb, l0, hn]))
  all_goals try omega
end Go.Proofs.YtfpamehamllndaaGreatDoor
namespace Go.Proofs.YtfpamehamllndaaGreatDoor
open Go Go.Fi

def searchF (p : Nat → Bool) : Nat → Nat → Nat → Nat
  | 0, i, _ => i
  | m + 1, i, j => if i < j then (if p ((i + j) / 2) = true then searchF p m i ((i + j) / 2) else searchF p m ((i + j) / 2 + 1) j) else i
set_option maxHeartbeats 4000000 in
theorem search_c (N : Nat) (hN : N ≤ 1000000) (g : Nat) (caps : List PV) (p : Nat → Bool) (hg : ∀ k : Nat, k < N → RealCall Tryz.prog g (.int .i64 k :: caps) (.bool (p k)) true) :
    RealCall Tryz.prog 45 [.int .i64 N, .fn g caps] (.int .i64 (searchF p N 0 N)) true := by
  generalize hR : searchF p N 0 N = R
  have kg := keep hg
  clear hg
  refine realcall_intro Tryz.func45 (by kernel_rfl) rfl (Nat.le_of_ble_eq_true (by kernel_rfl)) ?_
  simp only [Tryz.results45, Tryz.ntmps45]
  repeat' (first | (with_reducible first | refine awp_seq ?_ | refine awp_blockS ?_ | refine awp_blockC ?_ | refine awp_blockR ?_ | refine awp_skip ?_ | refine awp_ret ?_ | refine awp_exit ?_ | refine awp_region ?_ | refine awp_condM ?_ | refine And.intro ?_ ?_ | refine gE_splitN ?_ ?_ | refine gE_split ?_ ?_ | refine gQ_splitN ?_ ?_ | refine gQ_split ?_ ?_ | refine gM_splitN ?_ ?_ | refine gM_split ?_ ?_ | refine condM_splitDN ?_ ?_ | refine condM_splitD ?_ ?_ | refine condM_splitN ?_ ?_ | refine condM_split ?_ ?_ | refine condM_any ?_ ?_ | intro _) | (simp [*]))
  refine awp_for3 (fun (x : Nat × Nat × Nat) => x.2.2 ≤ x.1 + x.2.1 ∧ x.2.2 ≤ N ∧ x.2.1 ≤ N ∧ searchF p x.1 x.2.1 x.2.2 = R) [1] (fun (x : Nat × Nat × Nat) => [(5, .w false false (.int .i64 x.2.1)), (6, .w false false (.int .i64 x.2.2))]) [] (fun (x : Nat × Nat × Nat) => []) (fun (x : Nat × Nat × Nat) => x.1) (fun (_u : Unit) => True) [] (fun (_u : Unit) => [(5, .w false false (.int .i64 R))]) [] (fun (_u : Unit) => []) ((N, 0, N)) ⟨by simp, Nat.le_refl _, Nat.zero_le _, hR⟩ (by simp) (by simp) (fun x hk => ?_) (fun _u hf => ?_)
  · obtain ⟨m, i, j⟩ := x
    obtain ⟨h1, h2, h4, h3⟩ := hk
    dsimp only at h1 h2 h3 h4 ⊢
    by_cases hlt : i < j
    · cases m with
      | zero => omega
      | succ m =>
        have hmid : ((i : Int) + (j : Int)) / 2 = (((i + j) / 2 : Nat) : Int) := by omega
        have e : searchF p (m + 1) i j = if p ((i + j) / 2) = true then searchF p m i ((i + j) / 2) else searchF p m ((i + j) / 2 + 1) j := if_pos hlt
        rw [e] at h3
        have hc := kg ((i + j) / 2) (by omega)
        have hb1 : i ≤ (i + j) / 2 := by omega
        have hb2 : (i + j) / 2 < j := by omega
        clear e
        generalize hq : (i + j) / 2 = q at *
        cases hp : p q with
        | true =>
          rw [hp] at hc
          rw [if_pos hp] at h3
          clear kg hp hq
          repeat' (first | (with_reducible first | refine awp_seq ?_ | refine awp_blockS ?_ | refine awp_blockC ?_ | refine awp_blockR ?_ | refine awp_skip ?_ | refine awp_ret ?_ | refine awp_exit ?_ | refine awp_region ?_ | refine awp_condM ?_ | refine And.intro ?_ ?_ | refine gE_splitN ?_ ?_ | refine gE_split ?_ ?_ | refine gQ_splitN ?_ ?_ | refine gQ_split ?_ ?_ | refine gM_splitN ?_ ?_ | refine gM_split ?_ ?_ | refine condM_splitDN ?_ ?_ | refine condM_splitD ?_ ?_ | refine condM_splitN ?_ ?_ | refine condM_split ?_ ?_ | refine condM_any ?_ ?_ | refine cw (hc) ?_ | intro _) | (simp [*, hlt, hmid]))
          all_goals first
            | exact inI64 (by omega) (by omega)
            | exact inU64 (by omega) (by omega)
            | omega
            | (refine loopK_normal _ _ _ _ _ (m, i, q) _ ?_ (by first | omega | (dsimp only; omega) | (simp; omega)) ?_; (· exact ⟨by dsimp only; omega, by dsimp only; omega, h4, h3⟩); (refine le_of ?_ ?_ <;> first | trivial | (simp [*]; done)))
            | skip
        | false =>
          rw [hp] at hc
          rw [if_neg (by rw [hp]; decide)] at h3
          clear kg hp hq
          repeat' (first | (with_reducible first | refine awp_seq ?_ | refine awp_blockS ?_ | refine awp_blockC ?_ | refine awp_blockR ?_ | refine awp_skip ?_ | refine awp_ret ?_ | refine awp_exit ?_ | refine awp_region ?_ | refine awp_condM ?_ | refine And.intro ?_ ?_ | refine gE_splitN ?_ ?_ | refine gE_split ?_ ?_ | refine gQ_splitN ?_ ?_ | refine gQ_split ?_ ?_ | refine gM_splitN ?_ ?_ | refine gM_split ?_ ?_ | refine condM_splitDN ?_ ?_ | refine condM_splitD ?_ ?_ | refine condM_splitN ?_ ?_ | refine condM_split ?_ ?_ | refine condM_any ?_ ?_ | refine cw (hc) ?_ | intro _) | (simp [*, hlt, hmid]))
          all_goals first
            | exact inI64 (by omega) (by omega)
            | exact inU64 (by omega) (by omega)
            | omega
            | (refine loopK_normal _ _ _ _ _ (m, q + 1, j) _ ?_ (by first | omega | (dsimp only; omega) | (simp; omega)) ?_; (· exact ⟨by dsimp only; omega, h2, by dsimp only; omega, h3⟩); (refine le_of ?_ ?_ <;> first | trivial | (simp [*]; done)))
            | skip
    · have e : searchF p m i j = i := by
        cases m with
        | zero => rfl
        | succ m => exact if_neg hlt
      rw [e] at h3
      subst h3
      repeat' (first | (with_reducible first | refine awp_seq ?_ | refine awp_blockS ?_ | refine awp_blockC ?_ | refine awp_blockR ?_ | refine awp_skip ?_ | refine awp_ret ?_ | refine awp_exit ?_ | refine awp_region ?_ | refine awp_condM ?_ | refine And.intro ?_ ?_ | refine gE_splitN ?_ ?_ | refine gE_split ?_ ?_ | refine gQ_splitN ?_ ?_ | refine gQ_split ?_ ?_ | refine gM_splitN ?_ ?_ | refine gM_split ?_ ?_ | refine condM_splitDN ?_ ?_ | refine condM_splitD ?_ ?_ | refine condM_splitN ?_ ?_ | refine condM_split ?_ ?_ | refine condM_any ?_ ?_ | intro _) | (simp [*, hlt]))
      all_goals (refine finW_intro () ?_ ?_; (· trivial); (refine le_of ?_ ?_ <;> first | trivial | (simp [*]; done)))
  · repeat' (first | (with_reducible first | refine awp_seq ?_ | refine awp_blockS ?_ | refine awp_blockC ?_ | refine awp_blockR ?_ | refine awp_skip ?_ | refine awp_ret ?_ | refine awp_exit ?_ | refine awp_region ?_ | refine awp_condM ?_ | refine And.intro ?_ ?_ | refine gE_splitN ?_ ?_ | refine gE_split ?_ ?_ | refine gQ_splitN ?_ ?_ | refine gQ_split ?_ ?_ | refine gM_splitN ?_ ?_ | refine gM_split ?_ ?_ | refine condM_splitDN ?_ ?_ | refine condM_splitD ?_ ?_ | refine condM_splitN ?_ ?_ | refine condM_split ?_ ?_ | refine condM_any ?_ ?_ | intro _) | (simp [*]))
def lateB (n : Net) (t : Trip) (a b : Nat) (k : Nat) : Bool := decide (t.at_ < nth (growS (fTime true) n a k).l b)
theorem late1_c (n : Net) (t : Trip) (a b : Nat) (ok : TripOk n t a b) (k : Nat) (hk : k < 604801) :
    RealCall Tryz.prog 46 [.int .i64 k, .ip (cNet n) 0, .ip (tL t) 0] (.bool (lateB n t a b k)) true := by
  have c1 : RealCall Tryz.prog 41 [aNet n, .int .i64 a, .int .i64 k, .fn 39 []] (treeP n (growS (fTime true) n a k)) true := arrivals_c n ok.ok a ok.la k (by omega) (by omega) true
  have l1 := (growS_inv ok.ok (along_time ok.ok true) ok.la (start := (k : Int)) (by omega) (by omega)).ll
  have hb := ok.lb
  obtain ⟨t1, t2, t3⟩ := t
  obtain rfl : t1 = a := ok.fa
  obtain rfl : t2 = b := ok.fb
  unfold lateB
  dsimp only at *
  generalize growS (fTime true) n a k = s1 at *
  clear ok
  unfold treeP at c1
  unfold aNet cNet at *
  refine realcall_intro Tryz.func46 (by kernel_rfl) rfl (Nat.le_of_ble_eq_true (by kernel_rfl)) ?_
  simp only [Tryz.results46, Tryz.ntmps46]
  repeat' (first | (with_reducible first | refine awp_seq ?_ | refine awp_blockS ?_ | refine awp_blockC ?_ | refine awp_blockR ?_ | refine awp_skip ?_ | refine awp_ret ?_ | refine awp_exit ?_ | refine awp_region ?_ | refine awp_regionD (id := 1) 14 mixed (by decide +kernel) ?_ | refine awp_condM ?_ | refine And.intro ?_ ?_ | refine gE_splitN ?_ ?_ | refine gE_split ?_ ?_ | refine gQ_splitN ?_ ?_ | refine gQ_split ?_ ?_ | refine gM_splitN ?_ ?_ | refine gM_split ?_ ?_ | refine condM_splitDN ?_ ?_ | refine condM_splitD ?_ ?_ | refine condM_splitN ?_ ?_ | refine condM_split ?_ ?_ | refine condM_any ?_ ?_ | refine cw (c1) ?_ | intro _) | (simp [*, hb, l1]))
  all_goals try omega
def latestS (n : Net) (t : Trip) : Int × Int :=
  if otE n t ≠ 0 then (0, otE n t)
  else if nth (growS (fTime true) n t.frm.toNat 0).l t.to.toNat = -1 then (0, 12)
  else if searchF (lateB n t t.frm.toNat t.to.toNat) 604801 0 604801 = 0 then (0, 12)
  else ((searchF (lateB n t t.frm.toNat t.to.toNat) 604801 0 604801 : Int) - 1, 0)
theorem searchF_le (p : Nat → Bool) : ∀ m i j, i ≤ 1000000 → j ≤ 1000000 → searchF p m i j ≤ 1000000
  | 0, i, j, h, _ => h
  | m + 1, i, j, h1, h2 => by
    simp only [searchF]
    split
    · split
      · exact searchF_le p m _ _ h1 (by omega)
      · exact searchF_le p m _ _ (by omega) h2
    · exact h1
set_option maxHeartbeats 4000000 in
theorem latestFor_c (n : Net) (h : NetIn n) (t : Trip) : RealCall Tryz.prog 17 [aNet n, .agg (tL t)] (.tup [.int .i64 (latestS n t).1, .int .i64 (latestS n t).2]) true := by
  have co := openTrip_c n h t
  unfold latestS
  by_cases he : otE n t = 0
  · obtain ⟨a, b, ok⟩ := trip_ok h he
    rw [if_neg (by simp [he])]
    have c0 : RealCall Tryz.prog 41 [aNet n, .int .i64 a, .int .i64 0, .fn 39 []] (treeP n (growS (fTime true) n a 0)) true := arrivals_c n ok.ok a ok.la 0 (by omega) (by omega) true
    have cs := search_c 604801 (by omega) 46 [.ip (cNet n) 0, .ip (tL t) 0] (lateB n t a b) (fun k hk => late1_c n t a b ok k hk)
    have l0 := (growS_inv ok.ok (along_time ok.ok true) ok.la (Int.le_refl 0) (by omega)).ll
    have hle := searchF_le (lateB n t a b) 604801 0 604801 (by omega) (by omega)
    have hb := ok.lb
    obtain ⟨t1, t2, t3⟩ := t
    obtain rfl : t1 = a := ok.fa
    obtain rfl : t2 = b := ok.fb
    dsimp only at *
    rw [Int.toNat_natCast, Int.toNat_natCast]
    generalize growS (fTime true) n a 0 = s0 at *
    generalize searchF (lateB n ⟨a, b, t3⟩ a b) 604801 0 604801 = r at *
    unfold treeP at c0
    unfold aNet cNet at *
    clear ok h
    by_cases hn : nth s0.l b = -1
    · rw [if_pos hn]
      refine realcall_intro Tryz.func17 (by kernel_rfl) rfl (Nat.le_of_ble_eq_true (by kernel_rfl)) ?_
      simp only [Tryz.results17, Tryz.ntmps17]
      repeat' (first | (with_reducible first | refine awp_seq ?_ | refine awp_blockS ?_ | refine awp_blockC ?_ | refine awp_blockR ?_ | refine awp_skip ?_ | refine awp_ret ?_ | refine awp_exit ?_ | refine awp_region ?_ | refine awp_regionD (id := 4) 10 mixed (by decide +kernel) ?_ | refine awp_condM ?_ | refine And.intro ?_ ?_ | refine gE_splitN ?_ ?_ | refine gE_split ?_ ?_ | refine gQ_splitN ?_ ?_ | refine gQ_split ?_ ?_ | refine gM_splitN ?_ ?_ | refine gM_split ?_ ?_ | refine condM_splitDN ?_ ?_ | refine condM_splitD ?_ ?_ | refine condM_splitN ?_ ?_ | refine condM_split ?_ ?_ | refine condM_any ?_ ?_ | refine cw (co) ?_ | refine cw (c0) ?_ | intro _) | (simp [*, he, hb, l0, hn]))
      all_goals try omega
    · rw [if_neg hn]
      by_cases hr : r = 0
      · rw [if_pos hr]
        subst hr
        refine realcall_intro Tryz.func17 (by kernel_rfl) rfl (Nat.le_of_ble_eq_true (by kernel_rfl)) ?_
        simp only [Tryz.results17, Tryz.ntmps17]
        repeat' (first | (with_reducible first | refine awp_seq ?_ | refine awp_blockS ?_ | refine awp_blockC ?_ | refine awp_blockR ?_ | refine awp_skip ?_ | refine awp_ret ?_ | refine awp_exit ?_ | refine awp_region ?_ | refine awp_regionD (id := 4) 10 mixed (by decide +kernel) ?_ | refine awp_condM ?_ | refine And.intro ?_ ?_ | refine gE_splitN ?_ ?_ | refine gE_split ?_ ?_ | refine gQ_splitN ?_ ?_ | refine gQ_split ?_ ?_ | refine gM_splitN ?_ ?_ | refine gM_split ?_ ?_ | refine condM_splitDN ?_ ?_ | refine condM_splitD ?_ ?_ | refine condM_splitN ?_ ?_ | refine condM_split ?_ ?_ | refine condM_any ?_ ?_ | refine cw (co) ?_ | refine cw (c0) ?_ | refine cw (cs) ?_ | intro _) | (simp [*, he, hb, l0, hn]))
        all_goals try omega
      · rw [if_neg hr]
        refine realcall_intro Tryz.func17 (by kernel_rfl) rfl (Nat.le_of_ble_eq_true (by kernel_rfl)) ?_
        simp only [Tryz.results17, Tryz.ntmps17]
        repeat' (first | (with_reducible first | refine awp_seq ?_ | refine awp_blockS ?_ | refine awp_blockC ?_ | refine awp_blockR ?_ | refine awp_skip ?_ | refine awp_ret ?_ | refine awp_exit ?_ | refine awp_region ?_ | refine awp_regionD (id := 4) 10 mixed (by decide +kernel) ?_ | refine awp_condM ?_ | refine And.intro ?_ ?_ | refine gE_splitN ?_ ?_ | refine gE_split ?_ ?_ | refine gQ_splitN ?_ ?_ | refine gQ_split ?_ ?_ | refine gM_splitN ?_ ?_ | refine gM_split ?_ ?_ | refine condM_splitDN ?_ ?_ | refine condM_splitD ?_ ?_ | refine condM_splitN ?_ ?_ | refine condM_split ?_ ?_ | refine condM_any ?_ ?_ | refine cw (co) ?_ | refine cw (c0) ?_ | refine cw (cs) ?_ | intro _) | (simp [*, he, hb, l0, hn, hr]))
        all_goals first | exact inI64 (by omega) (by omega) | omega | skip
  · rw [if_pos he]
    unfold aNet cNet at *
    refine realcall_intro Tryz.func17 (by kernel_rfl) rfl (Nat.le_of_ble_eq_true (by kernel_rfl)) ?_
    simp only [Tryz.results17, Tryz.ntmps17]
    repeat' (first | (with_reducible first | refine awp_seq ?_ | refine awp_blockS ?_ | refine awp_blockC ?_ | refine awp_blockR ?_ | refine awp_skip ?_ | refine awp_ret ?_ | refine awp_exit ?_ | refine awp_region ?_ | refine awp_regionD (id := 4) 10 mixed (by decide +kernel) ?_ | refine awp_condM ?_ | refine And.intro ?_ ?_ | refine gE_splitN ?_ ?_ | refine gE_split ?_ ?_ | refine gQ_splitN ?_ ?_ | refine gQ_split ?_ ?_ | refine gM_splitN ?_ ?_ | refine gM_split ?_ ?_ | refine condM_splitDN ?_ ?_ | refine condM_splitD ?_ ?_ | refine condM_splitN ?_ ?_ | refine condM_split ?_ ?_ | refine condM_any ?_ ?_ | refine cw (co) ?_ | intro _) | (simp [*, he]))
end Go.Proofs.YtfpamehamllndaaGreatDoor

