/- Contracts of functions for this claim: lemmas alone. -/
import Derived.Test.YtlcimflkjfbaoaaGreatP9
import Derived.Lib.ItoaLen
import Derived.Test.YtlcimflkjfbaoaaGreatP7
import Derived.Test.YtlcimflkjfbaoaaGreatLt
import Derived.Deep.QuietTactic
import Derived.WalkKit
import Derived.Test.YtlcimflkjfbaoaaGreatLq
set_option linter.unusedSimpArgs false
set_option linter.unusedVariables false
namespace Go.Proofs.YtlcimflkjfbaoaaGreat
open Go Go.Fi
set_option maxRecDepth 20000

/-! ### the text of an entry -/
structure EntryT (e : Entry) : Prop where
  note : e.note.size < 1000000
  len : e.lines.length < 10000
  accs : ∀ k, k < e.lines.length → (nth e.lines k).acc.size < 1000000
  dlo : -9223372036854775808 ≤ e.date
  dhi : e.date ≤ 9223372036854775807
  lo : ∀ k, k < e.lines.length → -9223372036854775808 ≤ (nth e.lines k).amt
  hi : ∀ k, k < e.lines.length → (nth e.lines k).amt ≤ 9223372036854775807
theorem mem_nth {α : Type} [Inhabited α] {l : List α} {x : α} (h : x ∈ l) : ∃ k, k < l.length ∧ nth l k = x := by
  obtain ⟨k, hk, rfl⟩ := List.getElem_of_mem h
  exact ⟨k, hk, by simp [nth, List.getD_eq_getElem?_getD, List.getElem?_eq_getElem hk]⟩
end Go.Proofs.YtlcimflkjfbaoaaGreat
namespace Go.Proofs.YtlcimflkjfbaoaaGreat
open Go Go.Fi Go.RowKit Go.Shelf Go.Sort
set_option maxRecDepth 20000

/-! ### the sort by rests -/
noncomputable def siT : TypeInfo := (Tryz.prog.info? 26).get (by kernel_rfl)
noncomputable def siE : TypeInfo := (Tryz.prog.info? 3).get (by kernel_rfl)
theorem siK (n : Nat) (h2 : 2 ≤ n) : Lib.swapperK n siE 2 = 5 := by
  have a : siE.hasPointers = false := by kernel_rfl
  have b : siE.bytes = 8 := by kernel_rfl
  have c : (n == 0) = false := by simp; omega
  have d : (n == 1) = false := by simp; omega
  simp [Lib.swapperK, a, b, c, d]
theorem siK1 (n : Nat) (h1 : n ≤ 1) : Lib.swapperK n siE 2 = n + 1 := by
  rcases Nat.eq_zero_or_pos n with h | h
  · subst h; simp [Lib.swapperK]
  · obtain rfl : n = 1 := by omega
    simp [Lib.swapperK]
theorem sortC : SortC Tryz.prog 69 26 where
  ent := ⟨_, Tryz.func69, by kernel_rfl, by kernel_rfl⟩
  small m g lb lt blk off c d w h2 h20 eg hless hH hblk :=
    Any.sort_SliceStable_small sortSLaysGt_n8 26 3 siT siE (by kernel_rfl) (by kernel_rfl) (by kernel_rfl) (by kernel_rfl) 2 (fun _ => by kernel_rfl) (by kernel_rfl) (fun _ => by kernel_rfl) (fE m) (fun _ => rfl) lt g lb eg blk off c d h2 h20 103 (by rw [siK _ h2]; kernel_rfl) true
      (fun args W => run_callFunc_extern Tryz.func103 (by kernel_rfl) (by kernel_rfl) (by kernel_rfl) (e := Extern.ReflectliteSwapper.swap true) (by kernel_rfl) args W) w hless hH hblk
  tiny p n c g lb w h1 :=
    Any.sort_SliceStable_tiny sortSLaysGt_n8 26 3 siT siE (by kernel_rfl) (by kernel_rfl) (by kernel_rfl) (by kernel_rfl) 2 (fun _ => by kernel_rfl) p n c h1 (99 + n) (by
      rw [siK1 _ h1]
      rcases Nat.eq_zero_or_pos n with h | h
      · subst h; kernel_rfl
      · obtain rfl : n = 1 := by omega
        kernel_rfl) (.func g) #[] lb w
set_option maxHeartbeats 4000000 in
theorem lessC (n : Nat) (hn : n ≤ 1000) (rs : List Int) : LessC Tryz.prog 70 n rs := by
  refine ⟨⟨_, Tryz.func70, by kernel_rfl, by kernel_rfl⟩, ?_⟩
  intro bW bV bR bO cR cO W o hw hv hr ho hb i k hi hk
  have r1 := hr (o i) (hb i hi)
  have r2 := hr (o k) (hb k hk)
  have o1 := ho i hi
  have o2 := ho k hk
  have b1 := hb i hi
  have b2 := hb k hk
  generalize o i = x at *
  generalize o k = y at *
  generalize rs.getD x 0 = u at *
  generalize rs.getD y 0 = v at *
  clear hr ho hb
  go_enter Tryz.func70, Tryz.ntmps70
  go_wp2
  go_quiet (fail)
  go_wp2
  go_ret
  exact ⟨rfl, nq, rfl⟩
end Go.Proofs.YtlcimflkjfbaoaaGreat
namespace Go.Proofs.YtlcimflkjfbaoaaGreat
open Go Go.Fi
set_option maxRecDepth 20000

/-! ### products and quotients of 64 bits -/
theorem mul_c (x y : Nat) (hx : x < 18446744073709551616) (hy : y < 18446744073709551616) : RealCall Tryz.prog 67 [.int .u64 x, .int .u64 y] (.tup [.int .u64 ((x * y / 18446744073709551616 : Nat) : Int), .int .u64 ((x * y % 18446744073709551616 : Nat) : Int)]) true := by
  refine ⟨⟨_, Tryz.func67, by kernel_rfl, by kernel_rfl⟩, fun G w vs hok hl hrep => ?_⟩
  obtain ⟨v0, v1, rfl⟩ := vs2 hl
  have r0 := hrep 0 _ v0 rfl rfl
  have r1 := hrep 1 _ v1 rfl rfl
  cases r0
  cases r1
  refine (Any.bits_Mul64 mulLays_n264 x y hx hy w).mono ?_
  rintro e w' ⟨rfl, rfl⟩
  refine ⟨_, rfl, RowKit.Below.refl _ _, .tup rfl (fun j p v hp hv => ?_)⟩
  match j, hp, hv with
  | 0, hp, hv => simp at hp hv; subst hp; subst hv; exact .int _ _
  | 1, hp, hv => simp at hp hv; subst hp; subst hv; exact .int _ _
theorem inU64 {n : Int} (h0 : 0 ≤ n) (h1 : n ≤ 18446744073709551615) : inI .u64 n := ⟨h0, h1⟩
theorem divSmall_c (x y : Nat) (hy : 0 < y) (hx : x < 18446744073709551616) : RealCall Tryz.prog 68 [.int .u64 0, .int .u64 x, .int .u64 y] (.tup [.int .u64 ((x / y : Nat) : Int), .int .u64 ((x % y : Nat) : Int)]) true := by
  have e1 : ¬ y = 0 := by omega
  have e2 : (x : Int).tdiv (y : Int) = ((x / y : Nat) : Int) := rfl
  have e3 : (x : Int).tmod (y : Int) = ((x % y : Nat) : Int) := rfl
  have b1 : x / y ≤ x := Nat.div_le_self x y
  have e4 : ¬ (y : Int) ≤ 0 := by omega
  generalize x / y = q at *
  generalize x % y = r at *
  refine realcall_intro Tryz.func68 (by kernel_rfl) rfl (Nat.le_of_ble_eq_true (by kernel_rfl)) ?_
  simp only [Tryz.results68, Tryz.ntmps68]
  repeat' (first | (with_reducible first | refine awp_seq ?_ | refine awp_blockS ?_ | refine awp_blockC ?_ | refine awp_blockR ?_ | refine awp_skip ?_ | refine awp_ret ?_ | refine awp_exit ?_ | refine awp_region ?_ | refine awp_regionD (id := 6) 8 mixed (by decide +kernel) ?_ | refine awp_condM ?_ | refine And.intro ?_ ?_ | apply gQ_merge | apply gE_merge | exact EqV_w | exact EqE_w | exact EqV_ptr | exact EqE_ptr | exact EqV_msl | exact EqE_msl | exact EqV_agg | exact EqE_agg | exact EqV_fn | exact EqE_fn | exact EqV_gd | exact EqE_gd | refine gM_splitN ?_ ?_ | refine gM_split ?_ ?_ |  refine condM_splitDN ?_ ?_ | refine condM_splitD ?_ ?_ | refine condM_splitN ?_ ?_ | refine condM_split ?_ ?_ | refine condM_any ?_ ?_ | intro _) | (simp [*, e1, e2, e3, e4]))
  all_goals exact inU64 (by omega) (by omega)

/-! ### an amount split by shares -/
def sumN : List Nat → Nat
  | [] => 0
  | s :: r => s + sumN r
theorem sumN_snoc (s : Nat) : ∀ l : List Nat, sumN (l ++ [s]) = sumN l + s
  | [] => by simp [sumN]
  | x :: l => by simp only [List.cons_append, sumN, sumN_snoc s l]; omega
@[simp] theorem sumN_nil : sumN [] = 0 := rfl
theorem sumN_succ (l : List Nat) (k : Nat) (h : k < l.length) : sumN (l.take (k + 1)) = sumN (l.take k) + nth l k := by
  rw [take_succ_nth l k h, sumN_snoc]
def toI (l : List Nat) : List Int := l.map fun n : Nat => (n : Int)
@[simp] theorem toI_len (l : List Nat) : (toI l).length = l.length := by simp [toI]
@[simp] theorem toI_nth (l : List Nat) (k : Nat) (h : k < l.length) : nth (toI l) k = (nth l k : Nat) := by
  simp [toI, nth, List.getD_eq_getElem?_getD, List.getElem?_map, List.getElem?_eq_getElem h]
def qsK (a S : Nat) (ns : List Nat) : List Int := ns.map fun s => ((a * s / S : Nat) : Int)
def rsK (a S : Nat) (ns : List Nat) : List Int := ns.map fun s => ((a * s % S : Nat) : Int)
def osK (k : Nat) : List Int := (List.range k).map fun n : Nat => (n : Int)
def givenK (a S : Nat) : List Nat → Nat
  | [] => 0
  | s :: r => a * s / S + givenK a S r
theorem givenK_snoc (a S s : Nat) : ∀ l : List Nat, givenK a S (l ++ [s]) = givenK a S l + a * s / S
  | [] => by simp [givenK]
  | x :: l => by simp only [List.cons_append, givenK, givenK_snoc a S s l]; omega
def bump (out : List Int) : List Nat → List Int
  | [] => out
  | i :: r => bump (out.set i (nth out i + 1)) r
theorem bump_snoc (i : Nat) : ∀ (l : List Nat) (out : List Int), bump out (l ++ [i]) = (bump out l).set i (nth (bump out l) i + 1)
  | [], out => rfl
  | x :: l, out => by simp only [List.cons_append, bump]; exact bump_snoc i l _
@[simp] theorem bump_len : ∀ (l : List Nat) (out : List Int), (bump out l).length = out.length
  | [], out => rfl
  | x :: l, out => by simp only [bump]; rw [bump_len l]; simp
/-- the numbers of shares, by their rests -/
def sorted (rs : List Int) (N : Nat) : List (Fin (N + 1)) := (Sort.insertionSort (fun a b : Fin (N + 1) => decide (rs.getD b.val 0 < rs.getD a.val 0)) (List.finRange (N + 1)).toArray 0 (N + 1)).toList
theorem sorted_len (rs : List Int) (N : Nat) : (sorted rs N).length = N + 1 := by
  unfold sorted; rw [Array.length_toList, insertionSort_size]; simp
def orderN (rs : List Int) (N : Nat) : List Nat := (sorted rs N).map Fin.val
theorem orderN_len (rs : List Int) (N : Nat) : (orderN rs N).length = N + 1 := by simp [orderN, sorted_len]
theorem orderN_lt (rs : List Int) (N k : Nat) (h : k < N + 1) : nth (orderN rs N) k < N + 1 := by
  have h' : k < (sorted rs N).length := by rw [sorted_len]; exact h
  simp only [orderN, nth, List.getD_eq_getElem?_getD, List.getElem?_map, List.getElem?_eq_getElem h', Option.map_some, Option.getD_some]
  exact Fin.isLt _
def splitS (a : Nat) (ns : List Nat) : List Int := bump (qsK a (sumN ns) ns) ((orderN (rsK a (sumN ns) ns) (ns.length - 1)).take (a - givenK a (sumN ns) ns))
end Go.Proofs.YtlcimflkjfbaoaaGreat
namespace Go.Proofs.YtlcimflkjfbaoaaGreat
open Go Go.Fi
set_option maxRecDepth 20000

@[simp] theorem iA_frs : ∀ l : List Int, AV.frs.frsL (iA l) = true
  | [] => rfl
  | x :: l => by show (AV.frs (.w false false (.int .i64 x)) && AV.frs.frsL (iA l)) = true; rw [iA_frs l]; rfl
@[simp] theorem iA_ones : ∀ l : List Int, ones (iA l) = true
  | [] => rfl
  | x :: l => by show (AV.one (.w false false (.int .i64 x)) && ones (iA l)) = true; rw [iA_ones l]; rfl
@[simp] theorem iA_sh (n : Nat) (l : List Int) : AV.sh.shL n (iA l) = iA l := shL_map n false false _
theorem qs_succ (a S : Nat) (ns : List Nat) (k : Nat) (h : k < ns.length) : qsK a S (ns.take (k + 1)) = qsK a S (ns.take k) ++ [((a * nth ns k / S : Nat) : Int)] := by
  unfold qsK; rw [take_succ_nth ns k h]; simp
theorem rs_succ (a S : Nat) (ns : List Nat) (k : Nat) (h : k < ns.length) : rsK a S (ns.take (k + 1)) = rsK a S (ns.take k) ++ [((a * nth ns k % S : Nat) : Int)] := by
  unfold rsK; rw [take_succ_nth ns k h]; simp
theorem os_succ (k : Nat) : osK (k + 1) = osK k ++ [(k : Int)] := by
  unfold osK; rw [List.range_succ]; simp
theorem given_succ (a S : Nat) (ns : List Nat) (k : Nat) (h : k < ns.length) : givenK a S (ns.take (k + 1)) = givenK a S (ns.take k) + a * nth ns k / S := by
  rw [take_succ_nth ns k h, givenK_snoc]
@[simp] theorem qs_len (a S : Nat) (ns : List Nat) : (qsK a S ns).length = ns.length := by simp [qsK]
@[simp] theorem rs_len (a S : Nat) (ns : List Nat) : (rsK a S ns).length = ns.length := by simp [rsK]
@[simp] theorem os_len (k : Nat) : (osK k).length = k := by simp [osK]
@[simp] theorem qs_nil (a S : Nat) : qsK a S [] = [] := rfl
@[simp] theorem rs_nil (a S : Nat) : rsK a S [] = [] := rfl
@[simp] theorem os_zero : osK 0 = [] := rfl
@[simp] theorem given_nil (a S : Nat) : givenK a S [] = 0 := rfl
theorem iA_fC (N : Nat) : iA (osK (N + 1)) = fC (List.finRange (N + 1)) := by
  apply List.ext_getElem?
  intro j
  simp only [iA, ints, osK, fC, List.getElem?_map]
  by_cases h : j < N + 1
  · simp [List.getElem?_eq_getElem, h]
  · rw [List.getElem?_eq_none (by simp; omega), List.getElem?_eq_none (by simp; omega)]; rfl
theorem uA_uC (l : List Int) : uA l = uC l := rfl
/-- what is given is the amount, but for less than one a share -/
theorem given_le (a S : Nat) (hS : 0 < S) : ∀ ns : List Nat, givenK a S ns * S ≤ a * sumN ns ∧ a * sumN ns < givenK a S ns * S + (ns.length * S + 1 - min 1 ns.length)
  | [] => by simp [givenK, sumN]
  | s :: r => by
    obtain ⟨h1, h2⟩ := given_le a S hS r
    have e := Nat.div_add_mod (a * s) S
    have hm := Nat.mod_lt (a * s) hS
    simp only [givenK, sumN, Nat.add_mul, Nat.mul_add, List.length_cons, Nat.one_mul]
    have e2 : a * s / S * S = S * (a * s / S) := Nat.mul_comm _ _
    generalize a * s / S * S = q at *
    generalize S * (a * s / S) = q2 at *
    generalize a * s % S = m at *
    generalize a * s = x at *
    generalize givenK a S r * S = g at *
    generalize a * sumN r = t at *
    generalize r.length * S = lS at *
    have : min 1 (r.length + 1) = 1 := by omega
    rw [this]
    have h3 : min 1 r.length ≤ 1 := Nat.min_le_left _ _
    omega
theorem left_bd (a : Nat) (ns : List Nat) (h : 0 < sumN ns) : givenK a (sumN ns) ns ≤ a ∧ a - givenK a (sumN ns) ns < ns.length := by
  obtain ⟨h1, h2⟩ := given_le a (sumN ns) h ns
  have hl : 0 < ns.length := by
    cases ns with
    | nil => simp at h
    | cons x r => simp
  have h3 : min 1 ns.length = 1 := by omega
  rw [h3] at h2
  have g1 : givenK a (sumN ns) ns ≤ a := Nat.le_of_mul_le_mul_right h1 h
  refine ⟨g1, ?_⟩
  have h4 : (a - givenK a (sumN ns) ns) * sumN ns < ns.length * sumN ns := by
    rw [Nat.sub_mul]; omega
  exact Nat.lt_of_mul_lt_mul_right h4
@[simp] theorem iA_own {D : List Nat} {h : Heap} {n n' : Nat} (a : List Int) (x : Int) (o f : Bool) : cellsLe D h n n' (iA a ++ [.w o f (.int .i64 x)]) (iA (a ++ [x])) = True := eq_true (by rw [← iA_snoc]; exact cellsLe_pre _ ⟨cellLe_w _ _ _, trivial⟩)
@[simp] theorem uA_own {D : List Nat} {h : Heap} {n n' : Nat} (a : List Int) (x : Int) (o f : Bool) : cellsLe D h n n' (uA a ++ [.w o f (.int .u64 x)]) (uA (a ++ [x])) = True := eq_true (by rw [← uA_snoc]; exact cellsLe_pre _ ⟨cellLe_w _ _ _, trivial⟩)
def fN {N : Nat} (l : List (Fin (N + 1))) (k : Nat) : Nat := (l.map Fin.val).getD k 0
@[simp] theorem fC_get {N : Nat} (l : List (Fin (N + 1))) (k : Nat) (h : k < l.length) : nthA (fC l) k = .w false false (.int .i64 (fN l k : Nat)) := by
  unfold fC nthA fN
  simp [List.getD_eq_getElem?_getD, List.getElem?_map, List.getElem?_eq_getElem h]
@[simp] theorem fC_len {N : Nat} (l : List (Fin (N + 1))) : (fC l).length = l.length := by simp [fC]
@[simp] theorem fC_lt {N : Nat} (n : Nat) : ∀ (l : List (Fin (N + 1))), AV.lt.ltL n (fC l) = true
  | [] => rfl
  | x :: r => by
    show (AV.lt n (.w false false (.int .i64 (x.val : Int))) && AV.lt.ltL n (fC r)) = true
    rw [fC_lt n r]; rfl
theorem fN_order (rs : List Int) (N k : Nat) : fN (sorted rs N) k = nth (orderN rs N) k := rfl
@[simp] theorem bump_nil (out : List Int) : bump out [] = out := rfl
theorem nth_set (l : List Int) (i j : Nat) (v : Int) (h : i < l.length) : nth (l.set i v) j = if i = j then v else nth l j := by
  simp only [nth, List.getD_eq_getElem?_getD, List.getElem?_set]
  split
  · rename_i e; subst e; simp [h]
  · rfl
theorem bump_bd (M : Int) (N : Nat) : ∀ (l : List Nat) (out : List Int), (∀ i ∈ l, i < out.length) → (∀ j, j < out.length → 0 ≤ nth out j ∧ nth out j ≤ M) → ∀ j, j < out.length → 0 ≤ nth (bump out l) j ∧ nth (bump out l) j ≤ M + l.length
  | [], out, _, h, j, hj => by have := h j hj; simpa using this
  | i :: r, out, hi, h, j, hj => by
    have hil := hi i (by simp)
    have := bump_bd (M + 1) N r (out.set i (nth out i + 1)) (fun x hx => by rw [List.length_set]; exact hi x (by simp [hx])) (fun k hk => by
      rw [List.length_set] at hk
      have h1 := h k hk
      have h2 := h i hil
      rw [nth_set _ _ _ _ hil]
      split <;> omega) j (by rw [List.length_set]; exact hj)
    simp only [bump, List.length_cons]
    omega
end Go.Proofs.YtlcimflkjfbaoaaGreat

