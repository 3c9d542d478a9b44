/- Contracts of functions for this claim: lemmas alone. -/
import Derived.Test.YtpjhpmpbdfeajaaGreatDoorP15
import Derived.Test.YtpjhpmpbdfeajaaGreatDoorP320
import Derived.Lib.BitFns
import Derived.Laws.Bits64b
import Derived.Test.YtpjhpmpbdfeajaaGreatDoorLy
import Derived.Deep.Cut
import Derived.Lib.Hide
import Derived.Test.YtpjhpmpbdfeajaaGreatDoorP18
set_option linter.unusedSimpArgs false
set_option linter.unusedVariables false
namespace Go.Proofs.YtpjhpmpbdfeajaaGreatDoor
open Go Go.Fi
set_option maxRecDepth 20000

/-! ### a quotient of 128 bits by a number of 32: the school's two steps -/
structure DivSteps (hi lo S p PL W : Nat) : Prop where
  low : lo / PL < p * W
  lowm : lo % PL * p < W
  top : hi * (p * W) + lo / PL < S * p * W
  q1 : (hi * (p * W) + lo / PL) / (S * p) < W
  mid : (hi * (p * W) + lo / PL) % (S * p) * W + lo % PL * p < S * p * W
  q0 : ((hi * (p * W) + lo / PL) % (S * p) * W + lo % PL * p) / (S * p) < W
  quo : (hi * (p * W) + lo / PL) / (S * p) * W + ((hi * (p * W) + lo / PL) % (S * p) * W + lo % PL * p) / (S * p) = (hi * (W * W) + lo) / S
  rem : ((hi * (p * W) + lo / PL) % (S * p) * W + lo % PL * p) % (S * p) / p = (hi * (W * W) + lo) % S
theorem divTwo {A x M S p W : Nat} (hp : 0 < p) (hS : 0 < S) (e1 : A * W + x = M * p) (top : A < S * p * W) (hx : x < W) : A / (S * p) < W ∧ A % (S * p) * W + x < S * p * W ∧ (A % (S * p) * W + x) / (S * p) < W ∧
    A / (S * p) * W + (A % (S * p) * W + x) / (S * p) = M / S ∧ (A % (S * p) * W + x) % (S * p) / p = M % S := by
  have hD : 0 < S * p := Nat.mul_pos hS hp
  have a1 := Nat.div_add_mod A (S * p)
  have a2 := Nat.mod_lt A hD
  have mid : A % (S * p) * W + x < S * p * W := by
    have h1 : (A % (S * p) + 1) * W ≤ S * p * W := Nat.mul_le_mul_right _ a2
    rw [Nat.add_mul, Nat.one_mul] at h1
    omega
  have c1 := Nat.div_add_mod (A % (S * p) * W + x) (S * p)
  have c2 := Nat.mod_lt (A % (S * p) * W + x) hD
  have e2 : M * p = ((A % (S * p) * W + x) % (S * p)) + S * p * (A / (S * p) * W + (A % (S * p) * W + x) / (S * p)) := by
    have g1 : A * W = S * p * (A / (S * p)) * W + A % (S * p) * W := by
      rw [← Nat.add_mul, a1]
    rw [← e1, Nat.mul_add, ← Nat.mul_assoc, g1]
    omega
  refine ⟨Nat.div_lt_of_lt_mul top, mid, Nat.div_lt_of_lt_mul mid, ?_, ?_⟩
  · have h1 := Nat.mul_div_mul_right M S hp
    rw [e2, Nat.add_mul_div_left _ _ hD, Nat.div_eq_of_lt c2, Nat.zero_add] at h1
    exact h1
  · have h1 := Nat.mul_mod_mul_right p M S
    rw [e2, Nat.add_mul_mod_self_left, Nat.mod_eq_of_lt c2] at h1
    rw [h1, Nat.mul_div_cancel _ hp]
theorem divSteps (hi lo S p PL W : Nat) (hW : p * PL = W) (hp : 0 < p) (hPL : 0 < PL) (hhi : hi < S) (hlo : lo < W * W) : DivSteps hi lo S p PL W := by
  have low : lo / PL < p * W := Nat.div_lt_of_lt_mul (by rw [← Nat.mul_assoc, Nat.mul_comm PL p, hW]; exact hlo)
  have top : hi * (p * W) + lo / PL < S * p * W := by
    have h1 : (hi + 1) * (p * W) ≤ S * (p * W) := Nat.mul_le_mul_right _ hhi
    rw [Nat.add_mul, Nat.one_mul] at h1
    rw [Nat.mul_assoc S p W]
    omega
  have lowm : lo % PL * p < W := by
    have h1 := Nat.mul_lt_mul_of_pos_right (Nat.mod_lt lo hPL) hp
    rw [Nat.mul_comm PL p, hW] at h1
    exact h1
  have e1 : (hi * (p * W) + lo / PL) * W + lo % PL * p = (hi * (W * W) + lo) * p := by
    have h := Nat.div_add_mod lo PL
    have h2 : lo * p = lo / PL * W + lo % PL * p := by
      calc lo * p = (PL * (lo / PL) + lo % PL) * p := by rw [h]
        _ = PL * (lo / PL) * p + lo % PL * p := Nat.add_mul _ _ _
        _ = lo / PL * W + lo % PL * p := by rw [Nat.mul_comm PL (lo / PL), Nat.mul_assoc, Nat.mul_comm PL p, hW]
    have h3 : hi * (p * W) * W = hi * (W * W) * p := by
      rw [Nat.mul_assoc hi (p * W) W, Nat.mul_assoc p W W, Nat.mul_assoc hi (W * W) p, Nat.mul_comm (W * W) p]
    rw [Nat.add_mul, Nat.add_mul, h2, h3]
    omega
  obtain ⟨k1, k2, k3, k4, k5⟩ := divTwo hp (by omega) e1 top lowm
  exact ⟨low, lowm, top, k1, k2, k3, k4, k5⟩
theorem zeros64_c (x : Int) (w : World) (h0 : 0 ≤ x) (h1 : x ≤ 18446744073709551615) : Calls Tryz.prog 116 #[.int .u64 x] w fun e w' => e = .returned (.int .i64 (64 - (Lib.bitLen x.toNat : Int))) ∧ w' = w :=
  Any.bits_LeadingZeros64 lzLays_n134 x w h0 h1
end Go.Proofs.YtpjhpmpbdfeajaaGreatDoor
namespace Go.Proofs.YtpjhpmpbdfeajaaGreatDoor
open Go Go.Fi
set_option maxRecDepth 20000

theorem big_of {Y : Nat} (h : Y < 4294967296) : Y * 4294967296 < 18446744073709551616 := by omega
theorem small_of {Y : Nat} (h : Y < 4294967296) : Y < 18446744073709551616 := by omega
theorem not_big {Y : Nat} (h : Y < 4294967296) : ¬ ((4294967296 : Int) ≤ (Y : Int)) := by omega
theorem wrap_of {R Y : Nat} (h : R < Y) (hY : Y < 4294967296) : ∃ Z : Int, IntKind.u64.wrap (4294967296 * (R : Int)) = Z ∧ IntKind.u64.wrap Z = Z ∧ ¬ Z < 0 := by
  refine ⟨4294967296 * (R : Int), ?_, ?_, by omega⟩ <;> (rw [IntKind.wrap_u64]; omega)
theorem end_num {M z R : Nat} (h : z + R = M) : (M : Int) * 4294967296 - (z : Int) * 4294967296 = ((R * 4294967296 : Nat) : Int) := by omega
theorem end_lt {R Y : Nat} (hR : R < Y) (hY : Y < 4294967296) : ((R * 4294967296 : Nat) : Int) < 18446744073709551616 := by omega
theorem end_eq {M Q Y R p s : Nat} (h : Y * Q + R = M) (hR : R < Y) (hY : Y < 4294967296) (hp : (2 : Int) ^ s = ((p * 4294967296 : Nat) : Int)) :
    IntKind.u64.wrap (IntKind.u64.wrap (IntKind.u64.wrap ((M : Int) * 4294967296)) - IntKind.u64.wrap ((Q : Int) * ((Y : Int) * 4294967296))) / 2 ^ s = ((R / p : Nat) : Int) := by
  have e : (Q : Int) * ((Y : Int) * 4294967296) = ((Y * Q : Nat) : Int) * 4294967296 := by rw [Nat.mul_comm, Int.natCast_mul, Int.mul_assoc]
  have e2 : IntKind.u64.wrap (IntKind.u64.wrap (IntKind.u64.wrap ((M : Int) * 4294967296)) - IntKind.u64.wrap ((Q : Int) * ((Y : Int) * 4294967296))) = ((R * 4294967296 : Nat) : Int) := by
    rw [e]
    have g := end_num h
    have g2 := end_lt hR hY
    generalize Y * Q = z at *
    simp only [IntKind.wrap_u64, Int.emod_emod]
    rw [← Int.sub_emod, g]
    exact Int.emod_eq_of_lt (Int.natCast_nonneg _) g2
  have g3 : R * 4294967296 / (p * 4294967296) = R / p := Nat.mul_div_mul_right R p (Nat.succ_pos _)
  rw [e2, hp, ← Int.natCast_ediv, g3]
theorem big_left {A L Y : Nat} (h : A + L < Y * 4294967296) (hY : Y * 4294967296 < 18446744073709551616) : A < 18446744073709551616 ∧ L < 18446744073709551616 ∧ A + L < 18446744073709551616 := by omega
theorem sub_back {U Q Y R : Nat} (h : Y * Q + R = U) (hU : U < 18446744073709551616) : IntKind.u64.wrap ((U : Int) - IntKind.u64.wrap ((Q : Int) * (Y : Int))) = (R : Int) := by
  have e : (Q : Int) * (Y : Int) = ((Y * Q : Nat) : Int) := by rw [Nat.mul_comm, Int.natCast_mul]
  rw [e]
  generalize Y * Q = z at *
  rw [Mul64.wrapN z (by omega), IntKind.wrap_u64]
  omega
theorem mid_eq {U Q Y R X : Nat} (h : Y * Q + R = U) (hm : R * 4294967296 + X < 18446744073709551616) : IntKind.u64.wrap (IntKind.u64.wrap (IntKind.u64.wrap ((U : Int) * 4294967296) + (X : Int)) - IntKind.u64.wrap ((Q : Int) * ((Y : Int) * 4294967296))) = ((R * 4294967296 + X : Nat) : Int) := by
  have e : (Q : Int) * ((Y : Int) * 4294967296) = ((Y * Q : Nat) : Int) * 4294967296 := by rw [Nat.mul_comm, Int.natCast_mul, Int.mul_assoc]
  rw [e]
  generalize Y * Q = z at *
  simp only [IntKind.wrap_u64]
  omega
set_option maxHeartbeats 8000000 in
theorem div64_raw (hi lo S : Nat) (h0 : 0 < hi) (h1 : hi < S) (hS : S < 4294967296) (hlo : lo < 18446744073709551616) (w : World) :
    Calls Tryz.prog 79 #[.int .u64 (hi : Int), .int .u64 (lo : Int), .int .u64 (S : Int)] w fun e w' => e = .returned (.tuple #[.int .u64 (((hi * (4294967296 * 4294967296) + lo) / S : Nat) : Int), .int .u64 (((hi * (4294967296 * 4294967296) + lo) % S : Nat) : Int)]) ∧ w' = w := by
  obtain ⟨s, p, PL, es, s1, s2, e2s, eP, hW, hp, hPL, hSp⟩ := shift_of (S := S) (by omega) hS
  have cz := zeros64_c (S : Int) w (by omega) (by omega)
  rw [Int.toNat_natCast, es] at cz
  have D := divSteps hi lo S p PL 4294967296 hW hp hPL h1 (by omega)
  have e188 : ∀ args w, (callFunc 116 args).run Tryz.prog w = .ok (.enter 116 args) w := enters_of Tryz.func116 (by kernel_rfl) rfl
  clear es
  have hdm := Nat.div_add_mod lo PL
  obtain ⟨low, lowm, top, q1, mid, q0, quo, rem⟩ := D
  obtain ⟨LQ, hLQ⟩ : ∃ q, lo / PL = q := ⟨_, rfl⟩
  obtain ⟨LR, hLR⟩ : ∃ q, lo % PL = q := ⟨_, rfl⟩
  rw [hLQ] at low top q1 mid q0 quo rem hdm
  rw [hLR] at lowm mid q0 quo rem hdm
  have p2 : (2 : Int) ^ s = ((p * 4294967296 : Nat) : Int) := by rw [← e2s]; exact (Int.natCast_pow 2 s).symm
  have p3 : (2 : Int) ^ (64 - s) = ((PL : Nat) : Int) := by rw [← eP]; exact (Int.natCast_pow 2 (64 - s)).symm
  obtain ⟨Y, hYe⟩ : ∃ q, S * p = q := ⟨_, rfl⟩
  rw [hYe] at hSp top q1 mid q0 quo rem
  obtain ⟨A, hAe⟩ : ∃ q, hi * (p * 4294967296) = q := ⟨_, rfl⟩
  rw [hAe] at top q1 mid q0 quo rem
  obtain ⟨X, hXe⟩ : ∃ q, LR * p = q := ⟨_, rfl⟩
  rw [hXe] at lowm mid q0 quo rem
  obtain ⟨U, hUe⟩ : ∃ q, A + LQ = q := ⟨_, rfl⟩
  rw [hUe] at top q1 mid q0 quo rem
  have hYb := big_of hSp
  obtain ⟨hA, hLb, hAL⟩ := big_left (A := A) (L := LQ) (by rw [hUe]; exact top) hYb
  rw [hUe] at hAL
  have hXb := big_of lowm
  have eY : IntKind.u64.wrap ((S : Int) * 2 ^ s) = ((Y * 4294967296 : Nat) : Int) := by
    have h : (S : Int) * 2 ^ s = ((Y * 4294967296 : Nat) : Int) := by rw [p2, ← Int.natCast_mul, ← Nat.mul_assoc, hYe]
    rw [h]
    exact Mul64.wrapN (Y * 4294967296) hYb
  have eA : IntKind.u64.wrap ((hi : Int) * 2 ^ s) = (A : Int) := by
    have h : (hi : Int) * 2 ^ s = (A : Int) := by rw [p2, ← Int.natCast_mul, hAe]
    rw [h]
    exact Mul64.wrapN A hA
  have eL : (lo : Int) / 2 ^ (64 - s) = (LQ : Int) := by rw [p3, ← hLQ]; exact (Int.natCast_ediv lo PL).symm
  have eO : bits .or .u64 (A : Int) (LQ : Int) = ((U : Nat) : Int) := by
    rw [← hUe]
    rw [bits_or_u64_nat A LQ hA hLb]
    congr 1
    rw [← e2s] at low
    rw [← hAe, ← e2s, ← Nat.shiftLeft_eq, Nat.shiftLeft_add_eq_or_of_lt low]
  have eX : IntKind.u64.wrap ((lo : Int) * 2 ^ s) = ((X * 4294967296 : Nat) : Int) := by
    rw [p2, ← Int.natCast_mul, Mul64.wrapM]
    congr 1
    have h2 : lo * (p * 4294967296) = X * 4294967296 + 18446744073709551616 * LQ := by
      have h3 : PL * LQ * (p * 4294967296) = p * PL * (4294967296 * LQ) := by ac_rfl
      rw [← hdm, Nat.add_mul, h3, hW, ← Nat.mul_assoc LR, hXe]
      omega
    rw [h2, Nat.add_mul_mod_self_left]
    exact Nat.mod_eq_of_lt hXb
  have eM1 : bits .and .u64 ((Y : Int) * 4294967296) 4294967295 = 0 := by
    have h := Mul64.maskN (Y * 4294967296) hYb
    rw [Nat.mul_mod_left] at h
    simpa using h
  have eM2 : bits .and .u64 ((X : Int) * 4294967296) 4294967295 = 0 := by
    have h := Mul64.maskN (X * 4294967296) hXb
    rw [Nat.mul_mod_left] at h
    simpa using h
  clear p3 hdm hLQ hLR hYe hAe hXe e2s eP hW
  have kp := Lib.hid p2
  have kY := Lib.hid eY
  have kA := Lib.hid eA
  have kL := Lib.hid eL
  have kO := Lib.hid eO
  have kX := Lib.hid eX
  have kM1 := Lib.hid eM1
  have kM2 := Lib.hid eM2
  have kquo := Lib.hid quo
  have krem := Lib.hid rem
  clear p2 eY eA eL eO eX eM1 eM2 quo rem
  have hY0 : 0 < Y := by
    rcases Nat.eq_zero_or_pos Y with h | h
    · subst h; exact absurd top (by omega)
    · exact h
  go_enter Tryz.func79, Tryz.ntmps79
  go_upto_region 9 with (go_at_fn 116; refine cz.mono ?_; rintro e w' ⟨rfl, hw⟩; rw [hw])
  rw [kY.out]
  go_upto_region 11 with fail
  rw [kM1.out]
  go_upto_region 12 with fail
  rw [kA.out, kL.out, kO.out]
  go_upto_region 13 with fail
  rw [kX.out]
  go_upto_region 15 with fail
  rw [kM2.out]
  have hYz : ((Y : Int) == 0) = false := by simp; omega
  go_upto_region 16 with fail
  have eQ1 : (U : Int) / (Y : Int) = ((U / Y : Nat) : Int) := (Int.natCast_ediv U Y).symm
  rw [eQ1]
  clear eQ1
  obtain ⟨Q1, hQ1⟩ : ∃ q, U / Y = q := ⟨_, rfl⟩
  obtain ⟨R1, hR1⟩ : ∃ q, U % Y = q := ⟨_, rfl⟩
  have hdU := Nat.div_add_mod U Y
  have hlR := Nat.mod_lt U hY0
  have quo := kquo.out
  have rem := krem.out
  clear kquo krem
  rw [hQ1, hR1] at hdU
  rw [hR1] at hlR mid q0 rem
  rw [hQ1] at q1
  rw [hQ1, hR1] at quo
  rw [hQ1]
  rw [Mul64.wrapN Q1 (small_of q1)]
  go_upto_region 17 with fail
  rw [sub_back hdU hAL]
  have hq1 := not_big q1
  refine wp_loop_once ?_
  go_upto_region 21 with fail
  go_upto_region 22 with fail
  have hMb := Nat.lt_trans mid hYb
  rw [mid_eq hdU hMb]
  obtain ⟨M, hMe⟩ : ∃ q, R1 * 4294967296 + X = q := ⟨_, rfl⟩
  rw [hMe]
  rw [hMe] at hMb mid q0 quo rem
  go_upto_region 23 with fail
  have eQ0 : (M : Int) / (Y : Int) = ((M / Y : Nat) : Int) := (Int.natCast_ediv M Y).symm
  rw [eQ0]
  clear eQ0
  obtain ⟨Q0, hQ0⟩ : ∃ q, M / Y = q := ⟨_, rfl⟩
  obtain ⟨R0, hR0⟩ : ∃ q, M % Y = q := ⟨_, rfl⟩
  have hdM := Nat.div_add_mod M Y
  have hlR0 := Nat.mod_lt M hY0
  rw [hQ0, hR0] at hdM
  rw [hR0] at hlR0 rem
  rw [hQ0] at q0 quo
  rw [hQ0]
  rw [Mul64.wrapN Q0 (small_of q0)]
  go_upto_region 24 with fail
  rw [sub_back hdM hMb]
  have hq0 := not_big q0
  have kquo := Lib.hid quo
  have krem := Lib.hid rem
  have kdM := Lib.hid hdM
  have kMe := Lib.hid hMe
  have kmid := Lib.hid mid
  obtain ⟨Z, eW, eZ, hZ0⟩ := wrap_of hlR0 hSp
  have klR0 := Lib.hid hlR0
  clear quo rem hdM hMe hdU hUe mid top hlR0 hR0 hQ0 hQ1 hR1 hlR
  refine wp_loop_once ?_
  go_upto_region 28 with fail
  clear eW eZ hZ0
  go_wp2_with fail
  rw [end_eq kdM.out klR0.out hSp kp.out]
  have f1 : ((hi : Int) * 18446744073709551616 + (lo : Int)) / (S : Int) = (Q1 : Int) * 4294967296 + (Q0 : Int) := by
    have h := congrArg (fun n : Nat => (n : Int)) kquo.out
    simpa using h.symm
  have f2 : ((hi : Int) * 18446744073709551616 + (lo : Int)) % (S : Int) = ((R0 / p : Nat) : Int) := by
    have h := congrArg (fun n : Nat => (n : Int)) krem.out
    simpa using h.symm
  rw [f1, f2]
  go_ret2
  exact ⟨rfl, rfl⟩
end Go.Proofs.YtpjhpmpbdfeajaaGreatDoor
namespace Go.Proofs.YtpjhpmpbdfeajaaGreatDoor
open Go Go.Fi
set_option maxRecDepth 20000

/-! ### each share's quotient -/
theorem vs3 {vs : Array Value} (h : 3 = vs.size) : ∃ a b c, vs = #[a, b, c] := by
  obtain ⟨l⟩ := vs
  match l, h with
  | [a, b, c], _ => exact ⟨a, b, c, rfl⟩
theorem div_c (hi lo S : Nat) (h0 : 0 < hi) (h1 : hi < S) (hS : S < 4294967296) (hlo : lo < 18446744073709551616) : RealCall Tryz.prog 79 [.int .u64 hi, .int .u64 lo, .int .u64 S] (.tup [.int .u64 (((hi * (4294967296 * 4294967296) + lo) / S : Nat) : Int), .int .u64 (((hi * (4294967296 * 4294967296) + lo) % S : Nat) : Int)]) true := by
  refine ⟨⟨_, Tryz.func79, by kernel_rfl, by kernel_rfl⟩, fun G w vs hok hl hrep => ?_⟩
  obtain ⟨v0, v1, v2, rfl⟩ := vs3 hl
  have r0 := hrep 0 _ v0 rfl rfl
  have r1 := hrep 1 _ v1 rfl rfl
  have r2 := hrep 2 _ v2 rfl rfl
  cases r0
  cases r1
  cases r2
  refine (div64_raw hi lo S h0 h1 hS hlo w).mono ?_
  rintro e w' ⟨rfl, rfl⟩
  refine ⟨_, rfl, RowKit.Below.refl _ _, .tup rfl (fun j p v hp hv => ?_)⟩
  match j, hp, hv with
  | 0, hp, hv => simp at hp hv; subst hp; subst hv; exact .int _ _
  | 1, hp, hv => simp at hp hv; subst hp; subst hv; exact .int _ _
theorem divAll_of {a : Nat} {ns : List Nat} (h : SplitIn a ns) : DivAll a ns := by
  intro k hk
  have hS := sumN_bd ns h.share
  have hl := h.len
  have hp := h.pos
  have ha := h.amt
  have hle := nth_le_sum ns k hk
  have hd := div_bd (a := a) hle hp
  have hlo : a * nth ns k % 18446744073709551616 < 18446744073709551616 := Nat.mod_lt _ (by decide)
  have hdm := Nat.div_add_mod (a * nth ns k) 18446744073709551616
  by_cases h0 : a * nth ns k / 18446744073709551616 = 0
  · have hx : a * nth ns k < 18446744073709551616 := by omega
    rw [h0, Nat.mod_eq_of_lt hx]
    exact divSmall_c (a * nth ns k) (sumN ns) hp hx
  · have hlt : a * nth ns k < 18446744073709551616 * sumN ns := by
      have h2 : a * nth ns k ≤ a * sumN ns := Nat.mul_le_mul_left a hle
      have h3 : a * sumN ns < 18446744073709551616 * sumN ns := Nat.mul_lt_mul_of_pos_right (by omega) hp
      omega
    have h1 : a * nth ns k / 18446744073709551616 < sumN ns := Nat.div_lt_of_lt_mul hlt
    have c := div_c (a * nth ns k / 18446744073709551616) (a * nth ns k % 18446744073709551616) (sumN ns) (by omega) h1 (by omega) hlo
    have e : a * nth ns k / 18446744073709551616 * (4294967296 * 4294967296) + a * nth ns k % 18446744073709551616 = a * nth ns k := by
      rw [show (4294967296 * 4294967296 : Nat) = 18446744073709551616 from rfl, Nat.mul_comm]; exact hdm
    rw [e] at c
    exact c
theorem split_all (a : Nat) (ns : List Nat) (h : SplitIn a ns) : MkCall Tryz.prog 40 [.int .i64 (a : Int), .sl ns.length (ints (toI ns))] [iA (splitS a ns)] (.msl 0 ns.length 1 0 ns.length) := split_mk a ns h (divAll_of h)
end Go.Proofs.YtpjhpmpbdfeajaaGreatDoor

