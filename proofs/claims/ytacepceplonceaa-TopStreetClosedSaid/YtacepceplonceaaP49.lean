/- Contracts of functions for this claim: lemmas alone. -/
import Derived.Test.YtacepceplonceaaP48
set_option linter.unusedSimpArgs false
set_option linter.unusedVariables false
namespace Go.Proofs.Ytacepceplonceaa
open Go Go.Fi

theorem empty_in : NetIn ⟨[], []⟩ := ⟨by decide, by decide, fun k hk => absurd hk (Nat.not_lt_zero _), fun k hk => absurd hk (Nat.not_lt_zero _), fun k hk => absurd hk (Nat.not_lt_zero _)⟩
theorem without_bad (n : Net) (h : NetIn n) (r : Int) (he : wE n r ≠ 0) : RealCall Try.prog 13 [aNet n, .int .i64 r] (.tup [aNet ⟨[], []⟩, .int .i64 (wE n r)]) true := by
  have co := open_c n h
  have cr := roadErr_c n r h.nr
  have cf := first2_c (netS n).2.2 (errUnless (winB r 0 (n.roads.length - 1)) 6)
  unfold wE at *
  generalize (netS n).2.2 = ne at *
  generalize errUnless (winB r 0 (n.roads.length - 1)) 6 = re at *
  generalize firstS [ne, re] = fe at *
  clear h
  unfold aNet cNet at *
  have s0 : strs [] = [] := rfl
  have s1 : cRoads [] = [] := rfl
  refine realcall_intro Try.func13 (by kernel_rfl) rfl (Nat.le_of_ble_eq_true (by kernel_rfl)) ?_
  simp only [Try.results13, Try.ntmps13]
  repeat' (first | (with_reducible first | refine awp_seq ?_ | refine awp_blockS ?_ | refine awp_blockC ?_ | refine awp_blockR ?_ | refine awp_skip ?_ | refine awp_ret ?_ | refine awp_exit ?_ | refine awp_region ?_ | refine awp_condM ?_ | refine And.intro ?_ ?_ | refine gM_splitN ?_ ?_ | refine gM_split ?_ ?_ | refine condM_splitDN ?_ ?_ | refine condM_splitD ?_ ?_ | refine condM_splitN ?_ ?_ | refine condM_split ?_ ?_ | refine condM_any ?_ ?_ | refine cw (co) ?_ | refine cw (cr) ?_ | refine cw (cf) ?_ | intro _) | (simp [*, he, s0, s1]))
  all_goals try omega
/-- what is told of a trip without a road -/
inductive WoR (n : Net) (t : Trip) (r : Nat) : Prop
  | no (x : Tri) (h1 : estS n t = x) (h2 : estS (outN n r) t = (0, 0, 12))
  | yes (a b c d : Int) (h1 : estS n t = (a, b, 0)) (h2 : estS (outN n r) t = (c, d, 0)) (h3 : a ≤ c) (h4 : b ≤ d)
theorem wo_law {n : Net} (h : NetIn n) (r : Nat) {t : Trip} (ho : otE n t = 0) : WoR n t r := by
  obtain ⟨a, b, ok⟩ := trip_ok h ho
  have e1 : (netS n).2.2 = 0 := firstS_nth ho 0 (show (0 : Nat) < 2 by omega)
  have oi := out_in h r
  have e2 := out_net e1 r
  have oko := net_ok oi e2
  have ho2 : otE (outN n r) t = 0 := by
    rw [otE_trip e2]
    rw [otE_trip e1] at ho
    exact ho
  have la := ok.la
  have lb := ok.lb
  have hh := ok.hi
  have o1 := fun late => out_later ok.ok oko la lb ok.lo (by omega : t.at_ ≤ 700000) late
  have b2 := (growS_inv oko (along_time oko true) (from_ := a) la ok.lo (by omega : t.at_ ≤ 700000)).small oko (i := b) lb
  have b1 := (growS_inv oko (along_time oko false) (from_ := a) la ok.lo (by omega : t.at_ ≤ 700000)).small oko (i := b) lb
  have gs := grow_some oko (along_time oko false) (along_time oko true) (time_mono oko true) (a := a) la ok.lo (by omega : t.at_ ≤ 700000) ok.lo (by omega : t.at_ ≤ 700000) (i := b) lb
  have ea : t.frm.toNat = a := by have := ok.fa; omega
  have eb : t.to.toNat = b := by have := ok.fb; omega
  have u1 : estS n t = if nth (growS (fTime false) n a t.at_).l b = -1 then (0, 0, 12) else (nth (growS (fTime false) n a t.at_).l b, nth (growS (fTime true) n a t.at_).l b, 0) := by
    unfold estS; rw [if_neg (by simp [ho]), ea, eb]
  have u2 : estS (outN n r) t = if nth (growS (fTime false) (outN n r) a t.at_).l b = -1 then (0, 0, 12) else (nth (growS (fTime false) (outN n r) a t.at_).l b, nth (growS (fTime true) (outN n r) a t.at_).l b, 0) := by
    unfold estS; rw [if_neg (by simp [ho2]), ea, eb]
  by_cases hc : nth (growS (fTime false) (outN n r) a t.at_).l b = -1
  · rw [if_pos hc] at u2
    exact .no _ rfl u2
  · rw [if_neg hc] at u2
    have q1 := o1 false hc
    have q3 := gs (by omega)
    have q2 := o1 true (by omega)
    rw [if_neg (by omega)] at u1
    exact .yes _ _ _ _ u1 u2 q1.2 q2.2
end Go.Proofs.Ytacepceplonceaa
