/- Contracts of functions for this claim: lemmas alone. -/
import Derived.Test.YtgoemokfpfnlkaaP20
set_option linter.unusedSimpArgs false
set_option linter.unusedVariables false
namespace Go.Proofs.Ytgoemokfpfnlkaa
open Go Go.Fi

abbrev tL (t : Trip) : List PV := [.int .i64 t.frm, .int .i64 t.to, .int .i64 t.at_]
def tE (n : Net) (t : Trip) : Int := firstS [errUnless (winB t.frm 0 (n.places.length - 1)) 6, errUnless (winB t.to 0 (n.places.length - 1)) 6, errUnless (winB t.at_ 0 604800) 2]
def otE (n : Net) (t : Trip) : Int := firstS [(netS n).2.2, tE n t]
theorem openTrip_c (n : Net) (h : NetIn n) (t : Trip) : RealCall Try.prog 21 [aNet n, .agg (tL t)] (.tup [aNet n, .int .i64 (otE n t)]) false := by
  have co := open_c n h
  have ct : RealCall Try.prog 39 [aNet n, .agg (tL t)] (.int .i64 (tE n t)) true := tripErr_c n t h.np
  unfold aNet cNet at *
  refine realcall_intro Try.func21 (by kernel_rfl) rfl (Nat.le_of_ble_eq_true (by kernel_rfl)) ?_
  simp only [Try.results21, Try.ntmps21]
  repeat' (first | (with_reducible first | refine awp_seq ?_ | refine awp_blockS ?_ | refine awp_blockC ?_ | refine awp_blockR ?_ | refine awp_skip ?_ | refine awp_ret ?_ | refine awp_exit ?_ | refine awp_region ?_ | refine awp_regionD (id := 2) 7 mixed (by decide +kernel) ?_ | refine awp_condM ?_ | refine And.intro ?_ ?_ | refine gE_splitN ?_ ?_ | refine gE_split ?_ ?_ | refine gQ_splitN ?_ ?_ | refine gQ_split ?_ ?_ | refine gM_splitN ?_ ?_ | refine gM_split ?_ ?_ | refine condM_splitDN ?_ ?_ | refine condM_splitD ?_ ?_ | refine condM_splitN ?_ ?_ | refine condM_split ?_ ?_ | refine condM_any ?_ ?_ | refine cw (co) ?_ | refine cw (ct) ?_ | refine cw (first2_c _ _) ?_ | intro _) | (simp [*, otE]))
structure TripOk (n : Net) (t : Trip) (a b : Nat) : Prop where
  ok : NetOk n
  la : a < n.places.length
  lb : b < n.places.length
  fa : t.frm = a
  fb : t.to = b
  lo : 0 ≤ t.at_
  hi : t.at_ ≤ 604800
theorem trip_ok {n : Net} (h : NetIn n) {t : Trip} (he : otE n t = 0) : ∃ a b, TripOk n t a b := by
  have e1 : (netS n).2.2 = 0 := firstS_nth he 0 (show (0 : Nat) < 2 by omega)
  have e2 : tE n t = 0 := firstS_nth he 1 (show (1 : Nat) < 2 by omega)
  have w1 := win_of (unless_zero (by decide) (firstS_nth e2 0 (show (0 : Nat) < 3 by omega)))
  have w2 := win_of (unless_zero (by decide) (firstS_nth e2 1 (show (1 : Nat) < 3 by omega)))
  have w3 := win_of (unless_zero (by decide) (firstS_nth e2 2 (show (2 : Nat) < 3 by omega)))
  have ok := net_ok h e1
  exact ⟨t.frm.toNat, t.to.toNat, ok, by omega, by omega, by omega, by omega, w3.1, w3.2⟩
def estS (n : Net) (t : Trip) : Tri :=
  if otE n t ≠ 0 then (0, 0, otE n t)
  else if nth (growS (fTime false) n t.frm.toNat t.at_).l t.to.toNat = -1 then (0, 0, 12)
  else (nth (growS (fTime false) n t.frm.toNat t.at_).l t.to.toNat, nth (growS (fTime true) n t.frm.toNat t.at_).l t.to.toNat, 0)
set_option maxHeartbeats 4000000 in
theorem estimate_c (n : Net) (h : NetIn n) (t : Trip) : RealCall Try.prog 9 [aNet n, .agg (tL t)] (markP (estS n t)) true := by
  have co := openTrip_c n h t
  unfold estS
  by_cases he : otE n t = 0
  · obtain ⟨a, b, ok⟩ := trip_ok h he
    rw [if_neg (by simp [he])]
    have c0 : RealCall Try.prog 22 [aNet n, .int .i64 a, .int .i64 t.at_, .fn 23 []] (treeP n (growS (fTime false) n a t.at_)) true := arrivals_c n ok.ok a ok.la t.at_ ok.lo (by have := ok.hi; omega) false
    have c1 : RealCall Try.prog 22 [aNet n, .int .i64 a, .int .i64 t.at_, .fn 24 []] (treeP n (growS (fTime true) n a t.at_)) true := arrivals_c n ok.ok a ok.la t.at_ ok.lo (by have := ok.hi; omega) true
    have l0 := (growS_inv ok.ok (along_time ok.ok false) ok.la ok.lo (by have := ok.hi; omega)).ll
    have l1 := (growS_inv ok.ok (along_time ok.ok true) ok.la ok.lo (by have := ok.hi; omega)).ll
    have hb := ok.lb
    obtain ⟨t1, t2, t3⟩ := t
    obtain rfl : t1 = a := ok.fa
    obtain rfl : t2 = b := ok.fb
    dsimp only at *
    rw [Int.toNat_natCast, Int.toNat_natCast]
    generalize growS (fTime false) n a t3 = s0 at *
    generalize growS (fTime true) n a t3 = s1 at *
    unfold treeP at c0 c1
    unfold aNet cNet markP at *
    clear ok h
    by_cases hn : nth s0.l b = -1
    · rw [if_pos hn]
      refine realcall_intro Try.func9 (by kernel_rfl) rfl (Nat.le_of_ble_eq_true (by kernel_rfl)) ?_
      simp only [Try.results9, Try.ntmps9]
      repeat' (first | (with_reducible first | refine awp_seq ?_ | refine awp_blockS ?_ | refine awp_blockC ?_ | refine awp_blockR ?_ | refine awp_skip ?_ | refine awp_ret ?_ | refine awp_exit ?_ | refine awp_region ?_ | refine awp_regionD (id := 4) 24 mixed (by decide +kernel) ?_ | refine awp_condM ?_ | refine And.intro ?_ ?_ | refine gE_splitN ?_ ?_ | refine gE_split ?_ ?_ | refine gQ_splitN ?_ ?_ | refine gQ_split ?_ ?_ | refine gM_splitN ?_ ?_ | refine gM_split ?_ ?_ | refine condM_splitDN ?_ ?_ | refine condM_splitD ?_ ?_ | refine condM_splitN ?_ ?_ | refine condM_split ?_ ?_ | refine condM_any ?_ ?_ | refine cw (co) ?_ | refine cw (c0) ?_ | refine cw (c1) ?_ | intro _) | (simp [*, he, hb, l0, l1, hn]))
      all_goals try omega
    · rw [if_neg hn]
      refine realcall_intro Try.func9 (by kernel_rfl) rfl (Nat.le_of_ble_eq_true (by kernel_rfl)) ?_
      simp only [Try.results9, Try.ntmps9]
      repeat' (first | (with_reducible first | refine awp_seq ?_ | refine awp_blockS ?_ | refine awp_blockC ?_ | refine awp_blockR ?_ | refine awp_skip ?_ | refine awp_ret ?_ | refine awp_exit ?_ | refine awp_region ?_ | refine awp_regionD (id := 4) 24 mixed (by decide +kernel) ?_ | refine awp_condM ?_ | refine And.intro ?_ ?_ | refine gE_splitN ?_ ?_ | refine gE_split ?_ ?_ | refine gQ_splitN ?_ ?_ | refine gQ_split ?_ ?_ | refine gM_splitN ?_ ?_ | refine gM_split ?_ ?_ | refine condM_splitDN ?_ ?_ | refine condM_splitD ?_ ?_ | refine condM_splitN ?_ ?_ | refine condM_split ?_ ?_ | refine condM_any ?_ ?_ | refine cw (co) ?_ | refine cw (c0) ?_ | refine cw (c1) ?_ | intro _) | (simp [*, he, hb, l0, l1, hn]))
      all_goals try omega
  · rw [if_pos he]
    unfold aNet cNet markP at *
    refine realcall_intro Try.func9 (by kernel_rfl) rfl (Nat.le_of_ble_eq_true (by kernel_rfl)) ?_
    simp only [Try.results9, Try.ntmps9]
    repeat' (first | (with_reducible first | refine awp_seq ?_ | refine awp_blockS ?_ | refine awp_blockC ?_ | refine awp_blockR ?_ | refine awp_skip ?_ | refine awp_ret ?_ | refine awp_exit ?_ | refine awp_region ?_ | refine awp_regionD (id := 4) 24 mixed (by decide +kernel) ?_ | refine awp_condM ?_ | refine And.intro ?_ ?_ | refine gE_splitN ?_ ?_ | refine gE_split ?_ ?_ | refine gQ_splitN ?_ ?_ | refine gQ_split ?_ ?_ | refine gM_splitN ?_ ?_ | refine gM_split ?_ ?_ | refine condM_splitDN ?_ ?_ | refine condM_splitD ?_ ?_ | refine condM_splitN ?_ ?_ | refine condM_split ?_ ?_ | refine condM_any ?_ ?_ | refine cw (co) ?_ | intro _) | (simp [*, he]))
def pE (n : Net) (a b : Int) : Int := firstS [(netS n).2.2, errUnless (winB a 0 (n.places.length - 1)) 6, errUnless (winB b 0 (n.places.length - 1)) 6]
structure PairOk (n : Net) (x y : Int) (a b : Nat) : Prop where
  ok : NetOk n
  la : a < n.places.length
  lb : b < n.places.length
  fa : x = a
  fb : y = b
theorem pair_ok {n : Net} (h : NetIn n) {x y : Int} (he : pE n x y = 0) : ∃ a b, PairOk n x y a b := by
  have e1 : (netS n).2.2 = 0 := firstS_nth he 0 (show (0 : Nat) < 3 by omega)
  have w1 := win_of (unless_zero (by decide) (firstS_nth he 1 (show (1 : Nat) < 3 by omega)))
  have w2 := win_of (unless_zero (by decide) (firstS_nth he 2 (show (2 : Nat) < 3 by omega)))
  exact ⟨x.toNat, y.toNat, net_ok h e1, by omega, by omega, by omega, by omega⟩
/- a shortest way: where the roads behind each other come to an end -/
end Go.Proofs.Ytgoemokfpfnlkaa
