/- Contracts of functions for this claim: lemmas alone. -/
import Derived.Test.YtlcimflkjfbaoaaGreatP7
import Derived.Test.YtlcimflkjfbaoaaGreatP3
import Derived.Test.YtlcimflkjfbaoaaGreatLr
set_option linter.unusedSimpArgs false
set_option linter.unusedVariables false
namespace Go.Proofs.YtlcimflkjfbaoaaGreat
open Go Go.Fi
set_option maxRecDepth 20000

/-! ### reading texts that are right -/
structure NumOk (s : ByteArray) (v : Int) : Prop where
  size : s.size < 1000
  atoi : Lib.atoiAll s.data.toList = .ok v
  lo : -9223372036854775808 ≤ v
  hi : v ≤ 9223372036854775807
  text : dec v = s
  short : (Lib.trimPrefix s.data.toList [45]).length ≤ 15
structure LineOk (s : ByteArray) (y : Line) : Prop where
  size : s.size < 1000
  count : Lib.countByte s.data.toList 61 = 1
  ne : y.acc ≠ ⟨#[]⟩
  cut : ∃ amt, NumOk amt y.amt ∧ (⟨(Lib.cut s.data.toList [61]).1.toArray⟩ : ByteArray) = y.acc ∧ (⟨(Lib.cut s.data.toList [61]).2.1.toArray⟩ : ByteArray) = amt
end Go.Proofs.YtlcimflkjfbaoaaGreat
namespace Go.Proofs.YtlcimflkjfbaoaaGreat
open Go Go.Fi
set_option maxRecDepth 20000

/-! ### rows and items -/
def cRow (a : Row) : List PV := [.int .i64 a.entry, .int .i64 a.amt, .int .i64 a.bal]
def cRows (l : List Row) : List PV := l.flatMap cRow
@[simp] theorem cRows_len (l : List Row) : (cRows l).length = l.length * 3 := flatMap_len cRow 3 (fun _ => rfl) l
@[simp] theorem cRows_drop (l : List Row) (k : Nat) (h : k < l.length) : ((cRows l).drop (k * 3)).take 3 = cRow (nth l k) := flatMap_drop cRow 3 (fun _ => rfl) l k h
@[simp] theorem cRows_0 (l : List Row) (k : Nat) (h : k < l.length) : nthP (cRows l) (k * 3) = .int .i64 (nth l k).entry := flatMap_get cRow 3 (fun _ => rfl) l k 0 h (by omega)
@[simp] theorem cRows_1 (l : List Row) (k : Nat) (h : k < l.length) : nthP (cRows l) (k * 3 + 1) = .int .i64 (nth l k).amt := flatMap_get cRow 3 (fun _ => rfl) l k 1 h (by omega)
@[simp] theorem cRows_2 (l : List Row) (k : Nat) (h : k < l.length) : nthP (cRows l) (k * 3 + 2) = .int .i64 (nth l k).bal := flatMap_get cRow 3 (fun _ => rfl) l k 2 h (by omega)
@[simp] theorem cRows_take (l : List Row) (k : Nat) : (cRows l).take (k * 3) = cRows (l.take k) := flatMap_take cRow 3 (fun _ => rfl) l k
def cItem (a : Item) : List PV := [.int .i64 a.entry, .int .i64 a.op]
def cItems (l : List Item) : List PV := l.flatMap cItem
@[simp] theorem cItems_len (l : List Item) : (cItems l).length = l.length * 2 := flatMap_len cItem 2 (fun _ => rfl) l
@[simp] theorem cItems_drop (l : List Item) (k : Nat) (h : k < l.length) : ((cItems l).drop (k * 2)).take 2 = cItem (nth l k) := flatMap_drop cItem 2 (fun _ => rfl) l k h
@[simp] theorem cItems_0 (l : List Item) (k : Nat) (h : k < l.length) : nthP (cItems l) (k * 2) = .int .i64 (nth l k).entry := flatMap_get cItem 2 (fun _ => rfl) l k 0 h (by omega)
@[simp] theorem cItems_1 (l : List Item) (k : Nat) (h : k < l.length) : nthP (cItems l) (k * 2 + 1) = .int .i64 (nth l k).op := flatMap_get cItem 2 (fun _ => rfl) l k 1 h (by omega)
@[simp] theorem cItems_take (l : List Item) (k : Nat) : (cItems l).take (k * 2) = cItems (l.take k) := flatMap_take cItem 2 (fun _ => rfl) l k

/-! ### cells of lists that grow -/
theorem cellsLe_pre {D : List Nat} {h : Heap} {n n' : Nat} : ∀ (l : List PV) {X Y : List AV}, cellsLe D h n n' X Y → cellsLe D h n n' (l.map (.w false false) ++ X) (l.map (.w false false) ++ Y)
  | [], _, _, hX => hX
  | _ :: r, _, _, hX => ⟨.inl ⟨⟨fun h => h, fun h => h, .inl rfl⟩, rfl⟩, cellsLe_pre r hX⟩
theorem cellLe_w {D : List Nat} {h : Heap} {n n' : Nat} (o f : Bool) (p : PV) : cellLe D h n n' (.w o f p) (.w false false p) := .inl ⟨⟨(fun h => by cases h), (fun h => by cases h), .inl rfl⟩, rfl⟩

theorem cLines_app (a b : List Line) : cLines (a ++ b) = cLines a ++ cLines b := by simp [cLines, List.flatMap_append]
theorem cLines_flat : ∀ l : List Line, flatL (cLines l) = true
  | [] => rfl
  | x :: r => by have := cLines_flat r; simpa [cLines, cLine, flatL, flat] using this
@[simp] theorem cLines_all (l : List Line) : (cLines l).take (l.length * 2) = cLines l := by rw [cLines_take, List.take_length]
def lA (l : List Line) : List AV := (cLines l).map (.w false false)
@[simp] theorem lA_len (l : List Line) : (lA l).length = l.length * 2 := by simp [lA]
@[simp] theorem lA_nil : lA [] = [] := rfl
@[simp] theorem lA_snoc (a : List Line) (x : ByteArray) (y : Int) : lA a ++ [.w false false (.str x), .w false false (.int .i64 y)] = lA (a ++ [⟨x, y⟩]) := by simp [lA, cLines_app]; simp [cLines, cLine]
@[simp] theorem lA_lt (l : List Line) (n : Nat) : AV.lt.ltL n (lA l) = true := ltL_map n false false _
@[simp] theorem lA_self {D : List Nat} {h : Heap} {n n' : Nat} (l : List Line) : cellsLe D h n n' (lA l) (lA l) = True := eq_true (cellsLe_w false false _)
@[simp high] theorem lA_frz (h : Heap) (d : Nat) (l : List Line) : (lA l).mapM (frz h d) = some (cLines l) := mapM_frz h d false false _
@[simp high] theorem lA_fresh (h : Heap) (d : Nat) (l : List Line) : (lA l).all (freshA h d) = true := all_flat h d false false _ (cLines_flat l)
@[simp] theorem lA_own {D : List Nat} {h : Heap} {n n' : Nat} (a : List Line) (x : ByteArray) (y : Int) (o0 f0 : Bool) (o1 f1 : Bool) : cellsLe D h n n' (lA a ++ [.w o0 f0 (.str x), .w o1 f1 (.int .i64 y)]) (lA (a ++ [⟨x, y⟩])) = True := eq_true (by rw [← lA_snoc]; exact cellsLe_pre _ ⟨cellLe_w _ _ _, cellLe_w _ _ _, trivial⟩)
theorem cAccs_app (a b : List Acc) : cAccs (a ++ b) = cAccs a ++ cAccs b := by simp [cAccs, List.flatMap_append]
theorem cAccs_flat : ∀ l : List Acc, flatL (cAccs l) = true
  | [] => rfl
  | x :: r => by have := cAccs_flat r; simpa [cAccs, cAcc, flatL, flat] using this
@[simp] theorem cAccs_all (l : List Acc) : (cAccs l).take (l.length * 2) = cAccs l := by rw [cAccs_take, List.take_length]
def aA (l : List Acc) : List AV := (cAccs l).map (.w false false)
@[simp] theorem aA_len (l : List Acc) : (aA l).length = l.length * 2 := by simp [aA]
@[simp] theorem aA_nil : aA [] = [] := rfl
@[simp] theorem aA_snoc (a : List Acc) (x : ByteArray) (y : Int) : aA a ++ [.w false false (.str x), .w false false (.int .i64 y)] = aA (a ++ [⟨x, y⟩]) := by simp [aA, cAccs_app]; simp [cAccs, cAcc]
@[simp] theorem aA_lt (l : List Acc) (n : Nat) : AV.lt.ltL n (aA l) = true := ltL_map n false false _
@[simp] theorem aA_self {D : List Nat} {h : Heap} {n n' : Nat} (l : List Acc) : cellsLe D h n n' (aA l) (aA l) = True := eq_true (cellsLe_w false false _)
@[simp high] theorem aA_frz (h : Heap) (d : Nat) (l : List Acc) : (aA l).mapM (frz h d) = some (cAccs l) := mapM_frz h d false false _
@[simp high] theorem aA_fresh (h : Heap) (d : Nat) (l : List Acc) : (aA l).all (freshA h d) = true := all_flat h d false false _ (cAccs_flat l)
@[simp] theorem aA_own {D : List Nat} {h : Heap} {n n' : Nat} (a : List Acc) (x : ByteArray) (y : Int) (o0 f0 : Bool) (o1 f1 : Bool) : cellsLe D h n n' (aA a ++ [.w o0 f0 (.str x), .w o1 f1 (.int .i64 y)]) (aA (a ++ [⟨x, y⟩])) = True := eq_true (by rw [← aA_snoc]; exact cellsLe_pre _ ⟨cellLe_w _ _ _, cellLe_w _ _ _, trivial⟩)
theorem cRows_app (a b : List Row) : cRows (a ++ b) = cRows a ++ cRows b := by simp [cRows, List.flatMap_append]
theorem cRows_flat : ∀ l : List Row, flatL (cRows l) = true
  | [] => rfl
  | x :: r => by have := cRows_flat r; simpa [cRows, cRow, flatL, flat] using this
@[simp] theorem cRows_all (l : List Row) : (cRows l).take (l.length * 3) = cRows l := by rw [cRows_take, List.take_length]
def rA (l : List Row) : List AV := (cRows l).map (.w false false)
@[simp] theorem rA_len (l : List Row) : (rA l).length = l.length * 3 := by simp [rA]
@[simp] theorem rA_nil : rA [] = [] := rfl
@[simp] theorem rA_snoc (a : List Row) (x : Int) (y : Int) (z : Int) : rA a ++ [.w false false (.int .i64 x), .w false false (.int .i64 y), .w false false (.int .i64 z)] = rA (a ++ [⟨x, y, z⟩]) := by simp [rA, cRows_app]; simp [cRows, cRow]
@[simp] theorem rA_lt (l : List Row) (n : Nat) : AV.lt.ltL n (rA l) = true := ltL_map n false false _
@[simp] theorem rA_self {D : List Nat} {h : Heap} {n n' : Nat} (l : List Row) : cellsLe D h n n' (rA l) (rA l) = True := eq_true (cellsLe_w false false _)
@[simp high] theorem rA_frz (h : Heap) (d : Nat) (l : List Row) : (rA l).mapM (frz h d) = some (cRows l) := mapM_frz h d false false _
@[simp high] theorem rA_fresh (h : Heap) (d : Nat) (l : List Row) : (rA l).all (freshA h d) = true := all_flat h d false false _ (cRows_flat l)
@[simp] theorem rA_own {D : List Nat} {h : Heap} {n n' : Nat} (a : List Row) (x : Int) (y : Int) (z : Int) (o0 f0 : Bool) (o1 f1 : Bool) (o2 f2 : Bool) : cellsLe D h n n' (rA a ++ [.w o0 f0 (.int .i64 x), .w o1 f1 (.int .i64 y), .w o2 f2 (.int .i64 z)]) (rA (a ++ [⟨x, y, z⟩])) = True := eq_true (by rw [← rA_snoc]; exact cellsLe_pre _ ⟨cellLe_w _ _ _, cellLe_w _ _ _, cellLe_w _ _ _, trivial⟩)
theorem cItems_app (a b : List Item) : cItems (a ++ b) = cItems a ++ cItems b := by simp [cItems, List.flatMap_append]
theorem cItems_flat : ∀ l : List Item, flatL (cItems l) = true
  | [] => rfl
  | x :: r => by have := cItems_flat r; simpa [cItems, cItem, flatL, flat] using this
@[simp] theorem cItems_all (l : List Item) : (cItems l).take (l.length * 2) = cItems l := by rw [cItems_take, List.take_length]
def tA (l : List Item) : List AV := (cItems l).map (.w false false)
@[simp] theorem tA_len (l : List Item) : (tA l).length = l.length * 2 := by simp [tA]
@[simp] theorem tA_nil : tA [] = [] := rfl
@[simp] theorem tA_snoc (a : List Item) (x : Int) (y : Int) : tA a ++ [.w false false (.int .i64 x), .w false false (.int .i64 y)] = tA (a ++ [⟨x, y⟩]) := by simp [tA, cItems_app]; simp [cItems, cItem]
@[simp] theorem tA_lt (l : List Item) (n : Nat) : AV.lt.ltL n (tA l) = true := ltL_map n false false _
@[simp] theorem tA_self {D : List Nat} {h : Heap} {n n' : Nat} (l : List Item) : cellsLe D h n n' (tA l) (tA l) = True := eq_true (cellsLe_w false false _)
@[simp high] theorem tA_frz (h : Heap) (d : Nat) (l : List Item) : (tA l).mapM (frz h d) = some (cItems l) := mapM_frz h d false false _
@[simp high] theorem tA_fresh (h : Heap) (d : Nat) (l : List Item) : (tA l).all (freshA h d) = true := all_flat h d false false _ (cItems_flat l)
@[simp] theorem tA_own {D : List Nat} {h : Heap} {n n' : Nat} (a : List Item) (x : Int) (y : Int) (o0 f0 : Bool) (o1 f1 : Bool) : cellsLe D h n n' (tA a ++ [.w o0 f0 (.int .i64 x), .w o1 f1 (.int .i64 y)]) (tA (a ++ [⟨x, y⟩])) = True := eq_true (by rw [← tA_snoc]; exact cellsLe_pre _ ⟨cellLe_w _ _ _, cellLe_w _ _ _, trivial⟩)
theorem ints_flat : ∀ l : List Int, flatL (ints l) = true
  | [] => rfl
  | x :: r => by have := ints_flat r; simpa [ints, flatL, flat] using this
def iA (l : List Int) : List AV := (ints l).map (.w false false)
@[simp] theorem iA_len (l : List Int) : (iA l).length = l.length := by simp [iA]
@[simp] theorem iA_get (l : List Int) (i : Nat) (h : i < l.length) : nthA (iA l) i = .w false false (.int .i64 (nth l i)) := by
  unfold iA; rw [nthA_map _ _ _ (by simpa using h), ints_get l i h]
@[simp] theorem iA_set (l : List Int) (i : Nat) (v : Int) : (iA l).set i (.w false false (.int .i64 v)) = iA (l.set i v) := by
  simp [iA, ints, List.map_set]
@[simp] theorem iA_snoc (l : List Int) (v : Int) : iA l ++ [.w false false (.int .i64 v)] = iA (l ++ [v]) := by simp [iA, ints]
@[simp] theorem iA_nil : iA [] = [] := rfl
@[simp] theorem iA_lt (l : List Int) (n : Nat) : AV.lt.ltL n (iA l) = true := ltL_map n false false _
@[simp] theorem iA_self {D : List Nat} {h : Heap} {n n' : Nat} (l : List Int) : cellsLe D h n n' (iA l) (iA l) = True := eq_true (cellsLe_w false false _)
@[simp high] theorem iA_frz (h : Heap) (d : Nat) (l : List Int) : (iA l).mapM (frz h d) = some (ints l) := mapM_frz h d false false (ints l)
@[simp high] theorem iA_fresh (h : Heap) (d : Nat) (l : List Int) : (iA l).all (freshA h d) = true := all_flat h d false false (ints l) (ints_flat l)
def uns (l : List Int) : List PV := l.map (.int .u64)
def uA (l : List Int) : List AV := (uns l).map (.w false false)
@[simp] theorem uA_len (l : List Int) : (uA l).length = l.length := by simp [uA, uns]
@[simp] theorem uA_snoc (l : List Int) (v : Int) : uA l ++ [.w false false (.int .u64 v)] = uA (l ++ [v]) := by simp [uA, uns]
@[simp] theorem uA_nil : uA [] = [] := rfl
@[simp] theorem uA_lt (l : List Int) (n : Nat) : AV.lt.ltL n (uA l) = true := ltL_map n false false _
@[simp] theorem uA_self {D : List Nat} {h : Heap} {n n' : Nat} (l : List Int) : cellsLe D h n n' (uA l) (uA l) = True := eq_true (cellsLe_w false false _)
theorem strP_flat : ∀ l : List ByteArray, flatL (strP l) = true
  | [] => rfl
  | x :: r => by have := strP_flat r; simpa [strP, flatL, flat] using this
def stA (l : List ByteArray) : List AV := (strP l).map (.w false false)
@[simp] theorem strP_len (l : List ByteArray) : (strP l).length = l.length := by simp [strP]
@[simp] theorem strP_nil : strP [] = [] := rfl
@[simp] theorem strP_get (l : List ByteArray) (k : Nat) (h : k < l.length) : nthP (strP l) k = .str (nth l k) := nthP_map _ l k h
@[simp] theorem strP_take (l : List ByteArray) (k : Nat) : (strP l).take k = strP (l.take k) := by simp [strP, List.map_take]
@[simp] theorem strP_drop (l : List ByteArray) (k : Nat) : (strP l).drop k = strP (l.drop k) := by simp [strP, List.map_drop]
@[simp] theorem stA_len (l : List ByteArray) : (stA l).length = l.length := by simp [stA]
@[simp] theorem stA_nil : stA [] = [] := rfl
@[simp] theorem stA_snoc (a : List ByteArray) (x : ByteArray) : stA a ++ [.w false false (.str x)] = stA (a ++ [x]) := by simp [stA, strP]
@[simp] theorem stA_lt (l : List ByteArray) (n : Nat) : AV.lt.ltL n (stA l) = true := ltL_map n false false _
@[simp] theorem stA_self {D : List Nat} {h : Heap} {n n' : Nat} (l : List ByteArray) : cellsLe D h n n' (stA l) (stA l) = True := eq_true (cellsLe_w false false _)
@[simp high] theorem stA_frz (h : Heap) (d : Nat) (l : List ByteArray) : (stA l).mapM (frz h d) = some (strP l) := mapM_frz h d false false _
@[simp high] theorem stA_fresh (h : Heap) (d : Nat) (l : List ByteArray) : (stA l).all (freshA h d) = true := all_flat h d false false _ (strP_flat l)
end Go.Proofs.YtlcimflkjfbaoaaGreat
namespace Go.Proofs.YtlcimflkjfbaoaaGreat
open Go Go.Fi
set_option maxRecDepth 20000

structure TextOk (s : ByteArray) (e : Entry) : Prop where
  size : s.size < 1000000
  len : (pieces s ⟨#[32]⟩).length = e.lines.length + 2
  lines : e.lines.length < 1000
  full : Lib.containsS (pieces s ⟨#[32]⟩) ⟨#[]⟩ = false
  date : NumOk (nth (pieces s ⟨#[32]⟩) 0) e.date
  note : nth (pieces s ⟨#[32]⟩) 1 = e.note
  line : ∀ k, k < e.lines.length → LineOk (nth (pieces s ⟨#[32]⟩) (k + 2)) (nth e.lines k)
theorem nth_take {α : Type} [Inhabited α] (l : List α) (i k : Nat) (h : k < i) : nth (l.take i) k = nth l k := by
  simp [nth, List.getD_eq_getElem?_getD, List.getElem?_take, h]
end Go.Proofs.YtlcimflkjfbaoaaGreat
namespace Go.Proofs.YtlcimflkjfbaoaaGreat
open Go Go.Fi
set_option maxRecDepth 20000

end Go.Proofs.YtlcimflkjfbaoaaGreat

