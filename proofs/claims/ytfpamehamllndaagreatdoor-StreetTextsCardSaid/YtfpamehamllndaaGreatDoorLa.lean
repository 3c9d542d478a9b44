/- A logic of abstract states for this claim (part La): lemmas alone. -/
import Derived.Below
import Derived.Orders
import Derived.Tactics
import Derived.Laws.IdiomCopy
import Derived.Laws.Entries
import Derived.Laws.StructEq
import Derived.ChangeKeysEq
set_option linter.unusedSimpArgs false
set_option linter.unusedVariables false

namespace Go.Fi
open Go Go.RowKit

/-- what is known of the worlds that the walk goes through (what package-level variables hold): each seat says it -/
class LaidW where
  ok : World → Prop
  keep : ∀ {w w' : World}, ok w → Below w.heap.size w w' → ok w'

/-- plain data, as the abstract walk sees it -/
inductive PV where
  | undef
  | anyb
  | bool (b : Bool)
  | int (k : IntKind) (n : Int)
  | str (s : ByteArray)
  | agg (cs : List PV)
  | tup (vs : List PV)
  | sl (n : Nat) (cells : List PV)
  | ip (cells : List PV) (off : Nat)
  | nilp
  | nili
  | ifc (t : TypeId) (p : PV)
  | fn (f : FuncId) (cap : List PV)
  | yl (l : Nat)
  deriving Inhabited

/-- the cells from an address on are the given ones -/
def CellsAt (w : World) (b off : Nat) (n : Nat) (vals : Nat → Value) : Prop := ∀ j, j < n → w.cell? ⟨b, off + j, none⟩ = some (vals j)

inductive Rep (G : Nat → Prop) (w : World) : PV → Value → Prop
  | undef (v : Value) : Rep G w .undef v
  | anyb (b : Bool) : Rep G w .anyb (.bool b)
  | bool (b : Bool) : Rep G w (.bool b) (.bool b)
  | int (k : IntKind) (n : Int) : Rep G w (.int k n) (.int k n)
  | str (s : ByteArray) : Rep G w (.str s) (.string s)
  | agg {cs : List PV} {vs : Array Value} : cs.length = vs.size → (∀ (j : Nat) (p : PV) (v : Value), cs[j]? = some p → vs[j]? = some v → Rep G w p v) → Rep G w (.agg cs) (.agg vs)
  | tup {cs : List PV} {vs : Array Value} : cs.length = vs.size → (∀ (j : Nat) (p : PV) (v : Value), cs[j]? = some p → vs[j]? = some v → Rep G w p v) → Rep G w (.tup cs) (.tuple vs)
  | slnil : Rep G w (.sl 0 []) (.slice none 0 0)
  | sl {n cap b off : Nat} {cells : List PV} (vals : Nat → Value) : n ≤ cap → CellsAt w b off cells.length vals → (cells ≠ [] → G b) →
      (∀ (j : Nat) (p : PV), cells[j]? = some p → Rep G w p (vals j)) → Rep G w (.sl n cells) (.slice (some ⟨b, off, none⟩) n cap)
  | slz {n cap : Nat} {a : Addr} : n ≤ cap → Rep G w (.sl n []) (.slice (some a) n cap)
  | ip {o b off : Nat} {cells : List PV} (vals : Nat → Value) : CellsAt w b off cells.length vals → (cells ≠ [] → G b) →
      (∀ (j : Nat) (p : PV), cells[j]? = some p → Rep G w p (vals j)) → Rep G w (.ip cells o) (.pointer (some ⟨b, off + o, none⟩))
  | nilp : Rep G w .nilp (.pointer none)
  | nili : Rep G w .nili .nilIface
  | ifc {t : TypeId} {p : PV} {v : Value} : Rep G w p v → Rep G w (.ifc t p) (.iface t v)
  | fn {f : FuncId} {cap : List PV} {vs : Array Value} : cap.length = vs.size → (∀ (j : Nat) (p : PV) (v : Value), cap[j]? = some p → vs[j]? = some v → Rep G w p v) → Rep G w (.fn f cap) (.func (.func f) #[] vs)
  | yl (l : Nat) : Rep G w (.yl l) (.func (.yield l) #[] #[])

theorem CellsAt.keep {w w' : World} {b off n : Nat} {vals : Nat → Value} (h : CellsAt w b off n vals) (hb : w'.heap[b]? = w.heap[b]?) : CellsAt w' b off n vals := by
  intro j hj
  rw [← h j hj]
  simp only [World.cell?, hb]

theorem CellsAt.lt {w : World} {b off n : Nat} {vals : Nat → Value} (h : CellsAt w b off n vals) (hn : 0 < n) : b < w.heap.size := by
  have h0 := h 0 hn
  simp only [World.cell?] at h0
  rcases Nat.lt_or_ge b w.heap.size with hlt | hge
  · exact hlt
  · rw [Array.getElem?_eq_none hge] at h0; cases h0

/-- data that is read stays as it is where its blocks stay as they are -/
theorem Rep.mono {G G' : Nat → Prop} {w w' : World} {p : PV} {v : Value} (h : Rep G w p v)
    (hG : ∀ b, b < w.heap.size → G b → G' b) (hw : ∀ b, b < w.heap.size → G b → w'.heap[b]? = w.heap[b]?) : Rep G' w' p v := by
  induction h with
  | undef v => exact .undef v
  | anyb b => exact .anyb b
  | bool b => exact .bool b
  | int k n => exact .int k n
  | str s => exact .str s
  | agg hl _ ih => exact .agg hl ih
  | tup hl _ ih => exact .tup hl ih
  | slnil => exact .slnil
  | @sl n cap b off cells vals hn hc hg hr ih =>
    cases cells with
    | nil => exact .slz hn
    | cons x xs =>
      have hb : b < w.heap.size := hc.lt (by simp)
      exact .sl vals hn (hc.keep (hw b hb (hg (by simp)))) (fun _ => hG b hb (hg (by simp))) ih
  | slz hn => exact .slz hn
  | @ip o b off cells vals hc hg hr ih =>
    cases cells with
    | nil => exact .ip vals (fun j hj => by simp at hj) (fun h => absurd rfl h) (fun j p hj => by simp at hj)
    | cons x xs =>
      have hb : b < w.heap.size := hc.lt (by simp)
      exact .ip vals (hc.keep (hw b hb (hg (by simp)))) (fun _ => hG b hb (hg (by simp))) ih
  | nilp => exact .nilp
  | nili => exact .nili
  | ifc _ ih => exact .ifc ih
  | fn hl _ ih => exact .fn hl ih
  | yl l => exact .yl l

theorem Rep.imp {G G' : Nat → Prop} {w : World} {p : PV} {v : Value} (h : Rep G w p v) (hG : ∀ b, G b → G' b) : Rep G' w p v :=
  h.mono (fun b _ => hG b) (fun _ _ _ => rfl)

/-- values inside one call: data, places of the call's own, and what is built of them -/
inductive AV where
  | w (own full : Bool) (v : PV)
  | ptr (id ver off : Nat)
  | msl (id ver sz off n : Nat)
  | mp (id : Nat)
  | agg (cs : List AV)
  | tup (cs : List AV)
  | fn (f : FuncId) (cap : List AV)
  deriving Inhabited

/-- where the places lie: block and size of each version of each place; which places there are; the newest version -/
structure Mm where
  addr : Nat → Nat → Option (Nat × Nat)
  top : Nat → Nat
  dom : Nat → Prop

/-- how many blocks there were as the call began, and which of them its arguments lean on -/
structure Base where
  n : Nat
  G : Nat → Prop
def Good (B : Base) (L : Nat → Prop) (own : Bool) (b : Nat) : Prop := ¬ L b ∧ (own = true → B.n ≤ b) ∧ (b < B.n → B.G b)

inductive RepA (B : Base) (L : Nat → Prop) (m : Mm) (w : World) : AV → Value → Prop
  | w {own full : Bool} {p : PV} {v : Value} : Rep (Good B L own) w p v → (full = true → ∀ a n c, v = .slice a n c → n = c) → RepA B L m w (.w own full p) v
  | ptr {id ver off b C : Nat} : m.dom id → ver ≤ m.top id → m.addr id ver = some (b, C) → ver ≤ C → RepA B L m w (.ptr id ver off) (.pointer (some ⟨b, off, none⟩))
  | msl {id ver sz off n cap : Nat} {a : Option Addr} : m.dom id → ver ≤ m.top id → n ≤ cap →
      (m.addr id ver = none → cap = 0 ∧ ver = 0) →
      (∀ b C, m.addr id ver = some (b, C) → (0 < cap → a = some ⟨b, off, none⟩) ∧ off + cap * sz ≤ C ∧ ver ≤ off + cap * sz) →
      RepA B L m w (.msl id ver sz off n) (.slice a n cap)
  | mp {id b : Nat} : m.dom id → 1 ≤ m.top id → m.addr id 1 = some (b, 0) → RepA B L m w (.mp id) (.map (some b))
  | agg {cs : List AV} {vs : Array Value} : cs.length = vs.size → (∀ (j : Nat) (p : AV) (v : Value), cs[j]? = some p → vs[j]? = some v → RepA B L m w p v) → RepA B L m w (.agg cs) (.agg vs)
  | tup {cs : List AV} {vs : Array Value} : cs.length = vs.size → (∀ (j : Nat) (p : AV) (v : Value), cs[j]? = some p → vs[j]? = some v → RepA B L m w p v) → RepA B L m w (.tup cs) (.tuple vs)
  | fn {f : FuncId} {cap : List AV} {vs : Array Value} : cap.length = vs.size → (∀ (j : Nat) (p : AV) (v : Value), cap[j]? = some p → vs[j]? = some v → RepA B L m w p v) → RepA B L m w (.fn f cap) (.func (.func f) #[] vs)

structure Mm.le (m m' : Mm) : Prop where
  dom : ∀ id, m.dom id → m'.dom id
  top : ∀ id, m.dom id → m.top id ≤ m'.top id
  addr : ∀ id ver, m.dom id → ver ≤ m.top id → m'.addr id ver = m.addr id ver

theorem Mm.le.refl (m : Mm) : m.le m := ⟨fun _ h => h, fun _ _ => Nat.le_refl _, fun _ _ _ _ => rfl⟩
theorem Mm.le.trans {a b c : Mm} (h : a.le b) (k : b.le c) : a.le c :=
  ⟨fun id hd => k.dom id (h.dom id hd), fun id hd => Nat.le_trans (h.top id hd) (k.top id (h.dom id hd)),
    fun id ver hd hv => (k.addr id ver (h.dom id hd) (Nat.le_trans hv (h.top id hd))).trans (h.addr id ver hd hv)⟩

theorem RepA.mono {B : Base} {L L' : Nat → Prop} {m m' : Mm} {w w' : World} {p : AV} {v : Value} (h : RepA B L m w p v) (hm : m.le m')
    (hL : ∀ b, b < w.heap.size → ¬ L b → ¬ L' b) (hw : ∀ b, b < w.heap.size → ¬ L b → w'.heap[b]? = w.heap[b]?) : RepA B L' m' w' p v := by
  induction h with
  | w hr hf => exact .w (hr.mono (fun b hb hg => ⟨hL b hb hg.1, hg.2⟩) (fun b hb hg => hw b hb hg.1)) hf
  | ptr hd ht ha hC => exact .ptr (hm.dom _ hd) (Nat.le_trans ht (hm.top _ hd)) ((hm.addr _ _ hd ht).trans ha) hC
  | mp hd ht ha => exact .mp (hm.dom _ hd) (Nat.le_trans ht (hm.top _ hd)) ((hm.addr _ _ hd ht).trans ha)
  | msl hd ht hn h0 h1 =>
    refine .msl (hm.dom _ hd) (Nat.le_trans ht (hm.top _ hd)) hn (fun e => h0 ((hm.addr _ _ hd ht).symm.trans e)) (fun b C e => h1 b C ((hm.addr _ _ hd ht).symm.trans e))
  | agg hl _ ih => exact .agg hl ih
  | tup hl _ ih => exact .tup hl ih
  | fn hl _ ih => exact .fn hl ih

end Go.Fi

namespace Go.Fi
open Go Go.RowKit

abbrev Env := List (Nat × AV)
abbrev Heap := List (Nat × List AV)

def get : Env → Nat → AV
  | [], _ => .w false false .undef
  | (k, v) :: r, t => if k = t then v else get r t
def hget : Heap → Nat → Option (List AV)
  | [], _ => none
  | (k, v) :: r, t => if k = t then some v else hget r t
def hset : Heap → Nat → List AV → Heap
  | [], _, _ => []
  | (k, v) :: r, t, x => if k = t then (k, x) :: r else (k, v) :: hset r t x


def put (env : Env) : Option Nat → AV → Env
  | some d, v => (d, v) :: env
  | none, _ => env

/-- constants -/
def cst1 : Value → AV
  | .bool b => .w false false (.bool b)
  | .int k n => .w false false (.int k n)
  | .string s => .w false false (.str s)
  | .slice none 0 0 => .w true true (.sl 0 [])
  | .pointer none => .w true false .nilp
  | .nilIface => .w true false .nili
  | _ => .w false false .undef
def cst : Value → AV
  | .agg cs => .agg (cs.toList.map cst1)
  | .tuple cs => .tup (cs.toList.map cst1)
  | v => cst1 v

def ev (env : Env) : Operand → AV
  | .tmp t => get env t
  | .const v => cst v
  | .func f => .fn f []
  | .global _ => .w false false .undef

/-- what an integer may be, of its kind -/
def inI (k : IntKind) (n : Int) : Prop := k.min ≤ n ∧ n ≤ k.max

/-- layout -/
def tyL (P : Program) (t : TypeId) : Option (Nat × Bool) :=
  match P.info? t, P.underlying t with
  | some i, some (.struct _) => some (i.size, true)
  | some i, some (.array _ _) => some (i.size, true)
  | some i, some _ => some (i.size, false)
  | _, _ => none
def slE (P : Program) (t : TypeId) : Option (TypeId × Nat) :=
  match P.underlying t with
  | some (.slice e) => (P.info? e).map fun i => (e, i.size)
  | _ => none
def arE (P : Program) (t : TypeId) : Option (Nat × Nat) :=
  match P.underlying t with
  | some (.array n e) => (P.info? e).map fun i => (n, i.size)
  | _ => none
def isStr (P : Program) (t : TypeId) : Bool :=
  match P.underlying t with
  | some .string => true
  | _ => false
def fOf (P : Program) (s : TypeId) (k : Nat) : Option (Nat × Nat × Bool) :=
  match P.underlying s with
  | some (.struct fs) =>
    match fs[k]? with
    | some f => (tyL P f.type).bind fun (z, a) => if z = 0 then none else some (f.offset, z, a)
    | none => none
  | _ => none
def zcells (P : Program) (t : TypeId) : Option (List AV) :=
  match P.info? t with
  | some i => i.zero.map fun z => z.cells.toList.map cst1
  | none => none
/-- bytes of an element -/
def byE (P : Program) (e : TypeId) : Option Nat := (P.info? e).map (·.bytes)
/-- the places of the parts of a literal -/
def pls (P : Program) (t : TypeId) : Option (List (Nat × Nat)) :=
  match P.underlying t with
  | some (.struct fs) => fs.toList.mapM fun f => (P.info? f.type).map fun x => (f.offset, x.size)
  | some (.array n e) => (P.info? e).map fun x => (List.range n).map fun i => (i * x.size, x.size)
  | _ => none
def kindOf (P : Program) (t : TypeId) : Option IntKind :=
  match P.underlying t with
  | some (.int k) => some k
  | _ => none

/-- a value's cells -/
def AV.cells : AV → List AV
  | .agg cs => cs
  | .w own _ (.agg cs) => cs.map (AV.w own false)
  | v => [v]

/-- a value that lies in cells as it is -/
def AV.ok : AV → Bool
  | .w _ _ .undef => false
  | .w _ _ (.tup _) => false
  | .tup _ => false
  | _ => true
/-- a value of one cell -/
def AV.one : AV → Bool
  | .w _ _ .undef => false
  | .w _ _ (.tup _) => false
  | .w _ _ (.agg _) => false
  | .tup _ => false
  | .agg _ => false
  | _ => true

def AV.isAgg : AV → Bool
  | .agg _ => true
  | .w _ _ (.agg _) => true
  | _ => false

/-- a cell (names of our own, so that 'simp' leaves them as they are) -/
def nthA (l : List AV) (i : Nat) : AV := l.getD i (.w false false .undef)
def nthP (l : List PV) (i : Nat) : PV := l.getD i .undef
def nth {α : Type} [Inhabited α] (l : List α) (i : Nat) : α := l.getD i default

def setAt (cells : List AV) (off : Nat) : List AV → List AV
  | [] => cells
  | v :: r => setAt (cells.set off v) (off + 1) r

def fillA (place : Nat → Option (Nat × Nat)) (cells : List AV) : List (Nat × AV) → Option (List AV)
  | [] => some cells
  | (i, v) :: rest =>
    match place i with
    | none => none
    | some (off, size) => if v.ok = false ∨ v.cells.length ≠ size ∨ off + v.cells.length > cells.length then none else fillA place (setAt cells off v.cells) rest

def repl (n : Nat) (zs : List AV) : List AV := (List.replicate n zs).flatten

def eqS : Nat → PV → PV → Option Bool
  | 1, .int k a, .int k' b => if k = k' then some (decide (a = b)) else none
  | 0, .bool a, .bool b => some (a == b)
  | 2, .str a, .str b => some (decide (a = b))
  | _, _, _ => none
def eqL : List Nat → List AV → List AV → Option Bool
  | [], [], [] => some true
  | n :: ns, .w _ _ a :: x, .w _ _ b :: y =>
    match eqS n a b with
    | some t => match eqL ns x y with
      | some u => some (t && u)
      | none => none
    | none => none
  | _, _, _ => none

/-- a type whose leaves are bools (0), integers (1) and strings (2), in their order (for ==) -/
def lvF (lv : TypeId → Option (List Nat)) : List Field → Nat → Option (List Nat)
  | [], _ => some []
  | f :: fs, cur => if f.name = "_" ∨ f.offset ≠ cur then none else match lv f.type with
    | some k => match lvF lv fs (cur + k.length) with
      | some r => some (k ++ r)
      | none => none
    | none => none
def lvs (P : Program) : Nat → TypeId → Option (List Nat)
  | 0, _ => none
  | d + 1, t =>
    match P.underlying t with
    | some .bool => some [0]
    | some (.int _) => some [1]
    | some .string => some [2]
    | some (.struct fs) => if P.stoodInHeld t then none else match P.info? t, lvF (lvs P d) fs.toList 0 with
      | some i, some r => if i.size = r.length then some r else none
      | _, _ => none
    | some (.array n e) => match lvs P d e, P.info? e, P.info? t with
      | some k, some i, some it => if i.size = k.length ∧ it.size = n * k.length then some (List.replicate n k).flatten else none
      | _, _, _ => none
    | _ => none
def eqTy (P : Program) (t : TypeId) : Option (List Nat) :=
  match P.underlying t with
  | some (.struct _) | some (.array _ _) => if P.eqGuardType P.depth t then none else lvs P 6 t
  | _ => none
def isBool (P : Program) (t : TypeId) : Bool :=
  match P.underlying t with
  | some .bool => true
  | _ => false

def binI (op : BinOp) (k : IntKind) (a b : Int) : Option (Prop × PV) :=
  match op with
  | .add => some (inI k (a + b), .int k (a + b))
  | .sub => some (inI k (a - b), .int k (a - b))
  | .mul => some (inI k (a * b), .int k (a * b))
  | .quo => some (b ≠ 0 ∧ inI k (a.tdiv b), .int k (a.tdiv b))
  | .rem => some (b ≠ 0, .int k (a.tmod b))
  | .shr => some (b = 1, .int k (a / 2))
  | .eql => some (True, .bool (decide (a = b)))
  | .neq => some (True, .bool (!decide (a = b)))
  | .lss => some (True, .bool (decide (a < b)))
  | .leq => some (True, .bool (decide (a ≤ b)))
  | .gtr => some (True, .bool (decide (b < a)))
  | .geq => some (True, .bool (decide (b ≤ a)))
  | _ => none

def bin (P : Program) (t : TypeId) (op : BinOp) (x y : PV) : Option (Prop × PV) :=
  match x, y with
  | .int k a, .int k' b => if k = k' then binI op k a b else none
  | .str a, .str b =>
    match op with
    | .eql => some (True, .bool (decide (a = b)))
    | .neq => some (True, .bool (!decide (a = b)))
    | .add => some (a.size + b.size ≤ 1000000000000, .str (a ++ b))
    | _ => none
  | .bool a, .bool b =>
    bif isBool P t then match op with
    | .eql => some (True, .bool (a == b))
    | .neq => some (True, .bool (!(a == b)))
    | _ => none
    else none
  | _, _ => none

def avInt : AV → Option Int
  | .w _ _ (.int _ a) => some a
  | _ => none
def lov (ρ : Operand → AV) : Option Operand → Option Int
  | none => some 0
  | some o => avInt (ρ o)
def hiv (ρ : Operand → AV) (k : Nat) : Option Operand → Option Int
  | none => some k
  | some o => avInt (ρ o)

/-- a cut of a text, or of an array that is data -/
def slcX (P : Program) (ρ : Operand → AV) (t : TypeId) (x : AV) (lo hi mx : Option Operand) : Option (Prop × AV × List (List AV)) :=
  match isStr P t, x with
  | true, .w _ _ (.str s) =>
    match lov ρ lo, hiv ρ s.size hi, mx with
    | some l, some u, none => some (0 ≤ l ∧ l ≤ u ∧ u ≤ s.size, .w false false (.str (s.extract l.toNat u.toNat)), [])
    | _, _, _ => none
  | false, .w own _ (.ip cells off) =>
    match arE P t, lo, hi, mx with
    | some (n, sz), none, none, none => some (off + n * sz ≤ cells.length ∧ 0 < n, .w own true (.sl n ((cells.drop off).take (n * sz))), [])
    | some (n, sz), none, some y, none => match avInt (ρ y) with
      | some u => some (off + n * sz ≤ cells.length ∧ 0 < n ∧ 0 ≤ u ∧ u ≤ n, .w own false (.sl u.toNat ((cells.drop off).take (u.toNat * sz))), [])
      | none => none
    | _, _, _, _ => none
  | _, _ => none
/-- an interface value -/
def ifcA (t : TypeId) : AV → AV
  | .w own _ p => .w own false (.ifc t p)
  | _ => .w false false .undef
/-- not an interface's type -/
def nIfc (P : Program) (t : TypeId) : Bool :=
  match P.underlying t with
  | some (.interface _) => false
  | some _ => true
  | none => false
/-- a byte of a text -/
def byteAt (s : ByteArray) (k : Nat) : Nat := (s.data.toList.getD k 0).toNat
/-- a map, as the walk sees it: its pairs, in their order -/
def mcell (l : List (PV × PV)) : AV := .w false false (.agg (l.map fun p => .agg [p.1, p.2]))
def litV : PV → Value
  | .int k n => .int k n
  | .str s => .string s
  | .bool b => .bool b
  | _ => undef
def isLit : PV → Bool
  | .int _ _ => true
  | .str _ => true
  | .bool _ => true
  | _ => false
def pairD : List PV → Option (List (PV × PV))
  | [] => some []
  | .agg [a, b] :: r => (pairD r).map ((a, b) :: ·)
  | _ => none
def mdec : List AV → Option (List (PV × PV))
  | [.w _ _ (.agg ps)] => pairD ps
  | _ => none
def eqK : PV → PV → Bool
  | .str a, .str b => decide (a = b)
  | .int k a, .int k' b => decide (k = k') && decide (a = b)
  | _, _ => false
def okK : TypeDesc → PV → Bool
  | .string, .str _ => true
  | .int k, .int k' _ => decide (k = k')
  | _, _ => false
def okM (d : TypeDesc) (kp : PV) (l : List (PV × PV)) : Bool := okK d kp && l.all fun p => okK d p.1 && isLit p.2
def mlook : List (PV × PV) → PV → Option PV
  | [], _ => none
  | p :: r, k => if eqK k p.1 = true then some p.2 else mlook r k
def mset : List (PV × PV) → PV → PV → List (PV × PV)
  | [], k, v => [(k, v)]
  | p :: r, k, v => if eqK k p.1 = true then (k, v) :: r else p :: mset r k v
def zeroP (P : Program) (t : TypeId) : Option PV :=
  match (P.info? t).bind (·.zero) with
  | some (.int k n) => some (.int k n)
  | some (.string s) => some (.str s)
  | some (.bool b) => some (.bool b)
  | _ => none
def mapT (P : Program) (t : TypeId) : Option (TypeDesc × PV) :=
  match P.underlying t with
  | some (.map k e) => match P.underlying k, zeroP P e with
    | some d, some z => some (d, z)
    | _, _ => none
  | _ => none
def lkR (c : Bool) (r : Option PV) (z : PV) : AV :=
  match c, r with
  | true, some v => .w false false (.tup [v, .bool true])
  | true, none => .w false false (.tup [z, .bool false])
  | false, some v => .w false false v
  | false, none => .w false false z
def lkV (P : Program) (t : TypeId) (cells : Option (List AV)) (k : AV) (c : Bool) : Option (Prop × AV × List (List AV)) :=
  match cells.bind mdec, k, mapT P t with
  | some l, .w _ _ kp, some (d, z) => some (okM d kp l = true, lkR c (mlook l kp) z, [])
  | _, _, _ => none
def mpC (h : Heap) : AV → Option (List AV)
  | .mp id => hget h id
  | _ => none
/-- operations that turn nothing that was there: a condition, the value, new places -/
def aOp (P : Program) (h : Heap) (n : Nat) (ρ : Operand → AV) : Op → Option (Prop × AV × List (List AV))
  | .move x | .assign x => some (True, ρ x, [])
  | .pick c a b =>
    match ρ c with
    | .w _ _ (.bool t) =>
      match ρ a, ρ b with
      | .w _ _ (.bool x), .w _ _ (.bool y) => some (True, .w false false (.bool (bif t then x else y)), [])
      | x, y => some (True, bif t then x else y, [])
    | _ => none
  | .alloc t => match zcells P t with
    | some z => some (True, .ptr n z.length 0, [z])
    | none => none
  | .box _ x => some ((ρ x).ok = true, .ptr n (ρ x).cells.length 0, [(ρ x).cells])
  | .build t parts => match zcells P t with
    | some z => match pls P t with
      | some l => match fillA (l[·]?) z (parts.toList.map fun (i, x) => (i, ρ x)) with
        | some cs => some (True, .agg cs, [])
        | none => none
      | none => none
    | none => none
  | .buildSlice t len parts => match slE P t with
    | some (e, sz) => match zcells P e with
      | some z => match fillA (fun i => some (i * sz, sz)) (repl len z) (parts.toList.map fun (i, x) => (i, ρ x)) with
        | some cs => some (z.length = sz ∧ 0 < sz ∧ len * sz ≤ 1000, .msl n cs.length sz 0 len, [cs])
        | none => none
      | none => none
    | none => none
  | .load t a =>
    match tyL P t with
    | some (sz, g) =>
      match ρ a with
      | .ptr id ver off => match hget h id with
        | some cells => bif g then some (cells.length = ver ∧ off + sz ≤ cells.length, .agg ((cells.drop off).take sz), [])
          else some (cells.length = ver ∧ off < cells.length, nthA cells off, [])
        | none => none
      | .w own _ (.ip cells off) => bif g then some (off + sz ≤ cells.length, .w own false (.agg ((cells.drop off).take sz)), [])
          else some (off < cells.length, .w own false (nthP cells off), [])
      | _ => none
    | none => none
  | .nilCheck x => match ρ x with
    | .ptr id ver off => some (True, .ptr id ver off, [])
    | .w own f (.ip cells off) => some (True, .w own f (.ip cells off), [])
    | .fn f c => some (True, .fn f c, [])
    | .w own f (.fn g c) => some (True, .w own f (.fn g c), [])
    | _ => none
  | .binOp op t x y _ =>
    match eqTy P t with
    | some k => match eqL k (ρ x).cells (ρ y).cells with
      | some b => match op with
        | .eql => some ((ρ x).isAgg = true ∧ (ρ y).isAgg = true, .w false false (.bool b), [])
        | .neq => some ((ρ x).isAgg = true ∧ (ρ y).isAgg = true, .w false false (.bool (!b)), [])
        | _ => none
      | none => none
    | none => match ρ x, ρ y with
      | .w _ _ a, .w _ _ b => match bin P t op a b with
        | some (c, v) => some (c, .w false false v, [])
        | none => none
      | _, _ => none
  | .unOp op _ x =>
    match op, ρ x with
    | .not, .w _ _ (.bool b) => some (True, .w false false (.bool (!b)), [])
    | .neg, .w _ _ (.int k a) => some (inI k (-a), .w false false (.int k (-a)), [])
    | _, _ => none
  | .convert src dst x =>
    match kindOf P src, kindOf P dst, ρ x with
    | some _, some k, .w _ _ (.int _ a) => some (inI k a, .w false false (.int k a), [])
    | _, _, _ => none
  | .makeInterface t x => bif nIfc P t then some (True, ifcA t (ρ x), []) else none
  | .makeFunc (.func f) first captured => if first.size = 0 then some (True, .fn f (captured.toList.map ρ), []) else none
  | .makeSlice t l c =>
    match slE P t, ρ l, ρ c with
    | some (e, sz), .w _ _ (.int _ a), .w _ _ (.int _ b) => match zcells P e, byE P e with
      | some z, some by_ => some (a = b ∧ 0 ≤ a ∧ a ≤ 1000000000 ∧ z.length = sz ∧ 0 < sz ∧ by_ ≤ 100000, .msl n (repl a.toNat z).length sz 0 a.toNat, [repl a.toNat z])
      | _, _ => none
    | _, _, _ => none
  | .slice t x lo hi mx =>
    match slE P t with
    | some (_, sz) =>
      match lov ρ lo, ρ x with
      | some l, .w own _ (.sl k cells) =>
        match hiv ρ k hi, mx with
        | some u, none => some (0 ≤ l ∧ l ≤ u ∧ u ≤ k, .w own false (.sl (u.toNat - l.toNat) ((cells.drop (l.toNat * sz)).take ((u.toNat - l.toNat) * sz))), [])
        | some u, some y => match avInt (ρ y), hi with
          | some q, some _ => some (0 ≤ l ∧ l ≤ u ∧ u ≤ k ∧ q = u, .w own true (.sl (u.toNat - l.toNat) ((cells.drop (l.toNat * sz)).take ((u.toNat - l.toNat) * sz))), [])
          | _, _ => none
        | none, _ => none
      | some l, .msl id ver z off k =>
        match hiv ρ k hi, mx with
        | some u, none => some (0 ≤ l ∧ l ≤ u ∧ u ≤ k ∧ z = sz, .msl id ver z (off + l.toNat * sz) (u.toNat - l.toNat), [])
        | _, _ => none
      | _, _ => none
    | none => slcX P ρ t (ρ x) lo hi mx
  | .fieldAddr s x f => match fOf P s f with
    | some (o, _, _) => match ρ x with
      | .ptr id ver off => some (True, .ptr id ver (off + o), [])
      | .w own _ (.ip cells off) => some (True, .w own false (.ip cells (off + o)), [])
      | _ => none
    | none => none
  | .field s x f => match fOf P s f with
    | some (o, z, g) => match ρ x with
      | .agg cs => bif g then some (o + z ≤ cs.length, .agg ((cs.drop o).take z), []) else some (o < cs.length, nthA cs o, [])
      | .w own _ (.agg cs) => bif g then some (o + z ≤ cs.length, .w own false (.agg ((cs.drop o).take z)), []) else some (o < cs.length, .w own false (nthP cs o), [])
      | _ => none
    | none => none
  | .indexAddr t x i =>
    match ρ i with
    | .w _ _ (.int _ j) =>
      match slE P t with
      | some (_, sz) => match ρ x with
        | .w own _ (.sl k cells) => some (0 ≤ j ∧ j < k ∧ j.toNat * sz < cells.length, .w own false (.ip cells (j.toNat * sz)), [])
        | .msl id ver z off k => some (0 ≤ j ∧ j < k ∧ z = sz, .ptr id ver (off + j.toNat * sz), [])
        | _ => none
      | none => match arE P t with
        | some (k, sz) => match ρ x with
          | .ptr id ver off => some (0 ≤ j ∧ j < k, .ptr id ver (off + j.toNat * sz), [])
          | .w own _ (.ip cells off) => some (0 ≤ j ∧ j < k, .w own false (.ip cells (off + j.toNat * sz)), [])
          | _ => none
        | none => none
    | _ => none
  | .index t x i =>
    match ρ i, ρ x with
    | .w _ _ (.int _ j), .w _ _ (.str s) => bif isStr P t then some (0 ≤ j ∧ j < s.size, .w false false (.int .u8 (byteAt s j.toNat)), []) else none
    | _, _ => none
  | .lookup t x k c => lkV P t (mpC h (ρ x)) (ρ k) c
  | .extract x i => match ρ x with
    | .tup vs => if i < vs.length then some (True, nthA vs i, []) else none
    | .w own _ (.tup vs) => if i < vs.length then some (True, .w own false (nthP vs i), []) else none
    | _ => none
  | .call { callee := .builtin .len, args := args, argTypes := tys } =>
    match args.toList, tys.toList with
    | [x], [t] => match ρ x with
      | .w _ _ (.sl k _) => match slE P t with
        | some _ => some (True, .w false false (.int .i64 k), [])
        | none => none
      | .msl _ _ _ _ k => match slE P t with
        | some _ => some (True, .w false false (.int .i64 k), [])
        | none => none
      | .w _ _ (.str s) => bif isStr P t then some (True, .w false false (.int .i64 s.size), []) else none
      | _ => none
    | _, _ => none
  | .call { callee := .builtin .max, args := args, argTypes := _ } =>
    match args.toList with
    | [x, y] => match ρ x, ρ y with
      | .w _ _ (.int k a), .w _ _ (.int k' b) => if k = k' then some (True, .w false false (.int k (if a < b then b else a)), []) else none
      | _, _ => none
    | _ => none
  | .call { callee := .builtin .min, args := args, argTypes := _ } =>
    match args.toList with
    | [x, y] => match ρ x, ρ y with
      | .w _ _ (.int k a), .w _ _ (.int k' b) => if k = k' then some (True, .w false false (.int k (if b < a then b else a)), []) else none
      | _, _ => none
    | _ => none
  | _ => none

/-- a cut of some cells (the whole as it is) -/
def cutW {α : Type} (c : List α) (off cnt : Nat) : List α := if off = 0 ∧ cnt = c.length then c else (c.drop off).take cnt
theorem cutW_eq {α : Type} (c : List α) (off cnt : Nat) : cutW c off cnt = (c.drop off).take cnt := by
  unfold cutW
  split
  · rename_i h; obtain ⟨rfl, rfl⟩ := h; simp
  · rfl

/-- what is handed to a call: data -/
def frz (h : Heap) : Nat → AV → Option PV
  | _, .w _ _ p => some p
  | 0, _ => none
  | d + 1, .ptr id ver off => match hget h id with
    | some cells => if cells.length = ver then (cells.mapM (frz h d)).map fun c => .ip c off else none
    | none => none
  | d + 1, .msl id ver sz off n => match hget h id with
    | some cells => if cells.length = ver then (cells.mapM (frz h d)).map fun c => .sl n (cutW c off (n * sz)) else none
    | none => none
  | d + 1, .agg cs => (cs.mapM (frz h d)).map .agg
  | d + 1, .tup cs => (cs.mapM (frz h d)).map .tup
  | d + 1, .fn f c => (c.mapM (frz h d)).map (.fn f)
  | _ + 1, .mp _ => none


/-- what is appended -/
def srcOf (h : Heap) (sz : Nat) : AV → Option (Nat × List AV × Prop)
  | .msl id ver z off k => match hget h id with
    | some c => some (k, cutW c off (k * sz), c.length = ver ∧ z = sz ∧ off + k * sz ≤ ver)
    | none => none
  | .w own _ (.sl k c) => some (k, c.map (AV.w own false), c.length = k * sz)
  | _ => none
/-- cells written at a place, from there on -/
def insW (c : List AV) (at_ : Nat) (new : List AV) : List AV := if at_ = c.length then c ++ new else c.take at_ ++ new ++ c.drop (at_ + new.length)
def ones : List AV → Bool
  | [] => true
  | x :: r => x.one && ones r
def flat : PV → Bool
  | .undef => true
  | .anyb => true
  | .bool _ => true
  | .int _ _ => true
  | .str _ => true
  | .nilp => true
  | .nili => true
  | _ => false
def flatL : List PV → Bool
  | [] => true
  | x :: r => flat x && flatL r
/-- the data of cells, where they are data -/
def pvs : List AV → Option (List PV)
  | [] => some []
  | .w _ _ p :: r => match pvs r with
    | some q => some (p :: q)
    | none => none
  | _ => none

end Go.Fi

namespace Go.Fi
open Go Go.RowKit

/-- the blocks that the call may write -/
def LB (m : Mm) (h : Heap) (b : Nat) : Prop := ∃ id cells C, (id, cells) ∈ h ∧ m.dom id ∧ m.addr id cells.length = some (b, C)

def isMc : List AV → Bool
  | [.w _ _ (.agg _)] => true
  | [.w _ _ .undef] => true
  | _ => false
theorem isMc_len {c : List AV} (h : isMc c = true) : c.length = 1 := by
  unfold isMc at h
  split at h <;> first | rfl | cases h
def MapIs (es : Array MapEntry) (l : List (PV × PV)) : Prop := l.length = es.size ∧ ∀ (j : Nat) (p : PV × PV) (e : MapEntry), l[j]? = some p → es[j]? = some e → e.key = litV p.1 ∧ e.val = litV p.2
theorem pairD_map : ∀ l : List (PV × PV), pairD (l.map fun p => PV.agg [p.1, p.2]) = some l
  | [] => rfl
  | p :: r => by simp [pairD, pairD_map r]
theorem mdec_mcell (l : List (PV × PV)) : mdec [mcell l] = some l := by
  simp [mdec, mcell, pairD_map]
theorem mapIs_of {es : Array MapEntry} {l : List (PV × PV)} (h : MapIs es l) : ∀ l', mdec [mcell l] = some l' → MapIs es l' := fun l' e => by
  rw [mdec_mcell] at e; injection e with e; subst e; exact h
def Entry (B : Base) (L : Nat → Prop) (m : Mm) (w : World) (id : Nat) (cells : List AV) : Prop :=
  m.top id = cells.length ∧ ((m.addr id cells.length = none ∧ cells = []) ∨
    (∃ b C cs e, m.addr id cells.length = some (b, C) ∧ w.heap[b]? = some (.cells cs e (0, 0)) ∧ cs.size = C ∧ cells.length ≤ C ∧ B.n ≤ b ∧
      ∀ (j : Nat) (p : AV) (v : Value), cells[j]? = some p → cs[j]? = some v → RepA B L m w p v) ∨
    ∃ b es clk, m.addr id cells.length = some (b, 0) ∧ isMc cells = true ∧ w.heap[b]? = some (.map es clk) ∧ B.n ≤ b ∧ ∀ l, mdec cells = some l → MapIs es l)

structure Sim0 (B : Base) (h : Heap) (m : Mm) (w : World) : Prop where
  entry : ∀ id cells, (id, cells) ∈ h → m.dom id → Entry B (LB m h) m w id cells
  inj : h.Pairwise fun x y => x.1 ≠ y.1 ∧ ∀ b C C', m.dom x.1 → m.dom y.1 → m.addr x.1 x.2.length = some (b, C) → m.addr y.1 y.2.length ≠ some (b, C')

theorem Addr.add_mk (b o i : Nat) : (⟨b, o, none⟩ : Addr).add i = ⟨b, o + i, none⟩ := by unfold Addr.add; split <;> simp_all

section
variable {P : Program} {B : Base} {L : Nat → Prop} {m : Mm} {w : World}

theorem cst1_rep (v : Value) : RepA B L m w (cst1 v) v := by
  unfold cst1
  split
  · exact .w (.bool _) (fun h => by cases h)
  · exact .w (.int _ _) (fun h => by cases h)
  · exact .w (.str _) (fun h => by cases h)
  · exact .w .slnil (fun _ a n c h => by injection h with _ h1 h2; rw [← h1, ← h2])
  · exact .w .nilp (fun h => by cases h)
  · exact .w .nili (fun h => by cases h)
  · exact .w (.undef _) (fun h => by cases h)

theorem getElem?_map_some {α β : Type} {f : α → β} {l : List α} {j : Nat} {y : β} (h : (l.map f)[j]? = some y) : ∃ x, l[j]? = some x ∧ f x = y := by
  rw [List.getElem?_map] at h
  cases hx : l[j]? with
  | none => rw [hx] at h; cases h
  | some x => rw [hx] at h; exact ⟨x, rfl, by injection h⟩

theorem cst_rep (v : Value) : RepA B L m w (cst v) v := by
  unfold cst
  split
  · rename_i cs
    refine .agg (by simp) (fun j p v hp hv => ?_)
    obtain ⟨x, hx, rfl⟩ := getElem?_map_some hp
    rw [Array.getElem?_toList] at hx
    obtain rfl : x = v := by rw [hx] at hv; injection hv
    exact cst1_rep _
  · rename_i cs
    refine .tup (by simp) (fun j p v hp hv => ?_)
    obtain ⟨x, hx, rfl⟩ := getElem?_map_some hp
    rw [Array.getElem?_toList] at hx
    obtain rfl : x = v := by rw [hx] at hv; injection hv
    exact cst1_rep _
  · exact cst1_rep _

theorem ev_rep {env : Env} {a : Act} (x : Operand) (h : ∀ t, x = .tmp t → RepA B L m w (get env t) (a.tmps.getD t undef)) : RepA B L m w (ev env x) (a.eval x) := by
  cases x with
  | tmp t => exact h t rfl
  | const v => exact cst_rep v
  | global g => exact .w (.undef _) (fun h => by cases h)
  | func f => exact .fn rfl (fun j p v hp => by simp at hp)

theorem hget_mem {h : Heap} {id : Nat} {c : List AV} (e : hget h id = some c) : (id, c) ∈ h := by
  induction h with
  | nil => cases e
  | cons x r ih =>
    obtain ⟨k, v⟩ := x
    simp only [hget] at e
    split at e
    · rename_i hk; subst hk; injection e with e; subst e; simp
    · exact List.mem_cons_of_mem _ (ih e)

/-- a place is read -/
theorem Sim0.read {h : Heap} (hs : Sim0 B h m w) {id : Nat} {cells : List AV} (hin : (id, cells) ∈ h) (hd : m.dom id) {b C : Nat} (ha : m.addr id cells.length = some (b, C)) (hC : cells.length ≤ C) :
    ∃ cs e, w.heap[b]? = some (.cells cs e (0, 0)) ∧ cs.size = C ∧ cells.length ≤ C ∧ B.n ≤ b ∧ ∀ (j : Nat) (p : AV) (v : Value), cells[j]? = some p → cs[j]? = some v → RepA B (LB m h) m w p v := by
  rcases (hs.entry id cells hin hd).2 with ⟨h0, _⟩ | ⟨b', C', cs, e, h1, h2, h3, h4, h5, h6⟩ | ⟨b', es, clk, h1, h2, _, _, _⟩
  · rw [h0] at ha; cases ha
  · rw [h1] at ha; injection ha with ha; injection ha with hb hC; subst hb; subst hC
    exact ⟨cs, e, h2, h3, h4, h5, h6⟩
  · have := isMc_len h2; rw [h1] at ha; injection ha with ha; injection ha with hb hC'; omega

theorem cell_of {b j : Nat} {cs : Array Value} {e : TypeId} {f : Nat × Nat} (h : w.heap[b]? = some (.cells cs e f)) : w.cell? ⟨b, j, none⟩ = cs[j]? := by
  simp [World.cell?, h]

/-- reading one cell or several, by the type -/
theorem run_loadAt_cells (b off : Nat) {t : TypeId} {sz : Nat} {g : Bool} (ht : tyL P t = some (sz, g)) (vals : Nat → Value)
    (hc : ∀ j, j < (bif g then sz else 1) → w.cell? ⟨b, off + j, none⟩ = some (vals j)) :
    (Instr.loadAt t (.pointer (some ⟨b, off, none⟩))).run P w = .ok (bif g then .agg ((List.range sz).map vals).toArray else vals 0) w := by
  have hl : ∀ i : TypeInfo, i.size = sz → g = true → (loadCells ⟨b, off, none⟩ i.size).run P w = .ok ((List.range sz).map vals).toArray w := by
    intro i hi hg
    subst hi hg
    have hl := run_loadCells_list (P := P) w ⟨b, off, none⟩ ((List.range i.size).map vals) (fun j v hj => by
      obtain ⟨x, hx, rfl⟩ := getElem?_map_some hj
      obtain ⟨hlt, rfl⟩ := List.getElem?_eq_some_iff.1 hx
      simp only [List.length_range] at hlt
      rw [Addr.add_mk]; simp only [List.getElem_range]; exact hc _ (by simpa using hlt))
    simpa only [List.length_map, List.length_range] using hl
  unfold tyL at ht
  split at ht
  · rename_i i _ hi hu
    simp only [Option.some.injEq, Prod.mk.injEq] at ht
    obtain ⟨h1, rfl⟩ := ht
    simp [Instr.loadAt, Instr.sureAddr, loadVar, isAgg, run_underlying hu, sizeOf, typeInfo, hi, hl i h1 rfl]
  · rename_i i _ _ hi hu
    simp only [Option.some.injEq, Prod.mk.injEq] at ht
    obtain ⟨h1, rfl⟩ := ht
    simp [Instr.loadAt, Instr.sureAddr, loadVar, isAgg, run_underlying hu, sizeOf, typeInfo, hi, hl i h1 rfl]
  · rename_i i d hns hna hi hu
    simp only [Option.some.injEq, Prod.mk.injEq] at ht
    obtain ⟨h1, rfl⟩ := ht
    have h0 := hc 0 (by simp)
    simp only [Nat.add_zero] at h0
    have hagg : (isAgg t).run P w = .ok false w := by
      unfold isAgg
      simp only [Sem.run_bind, run_underlying hu, Result.andThen_ok]
      rfl
    simp [Instr.loadAt, Instr.sureAddr, loadVar, hagg, h0]
  · cases ht
end
end Go.Fi

namespace Go.Fi
open Go Go.RowKit

def ValOk (P : Program) (B : Base) (H : Heap) (m : Mm) (w : World) (r : Sem Next) (v : AV) : Prop :=
  ∃ v', r.run P w = .ok (.value v') w ∧ RepA B (LB m H) m w v v'

section
variable {P : Program} {B : Base} {L : Nat → Prop} {m : Mm} {w : World}

theorem RepA.int_inv {o f : Bool} {k : IntKind} {n : Int} {v : Value} (h : RepA B L m w (.w o f (.int k n)) v) : v = .int k n := by
  cases h with | w h _ => cases h; rfl
theorem RepA.bool_inv {o f : Bool} {b : Bool} {v : Value} (h : RepA B L m w (.w o f (.bool b)) v) : v = .bool b := by
  cases h with | w h _ => cases h; rfl
theorem RepA.str_inv {o f : Bool} {b : ByteArray} {v : Value} (h : RepA B L m w (.w o f (.str b)) v) : v = .string b := by
  cases h with | w h _ => cases h; rfl
theorem rep_int (k : IntKind) (n : Int) : RepA B L m w (.w false false (.int k n)) (.int k n) := .w (.int _ _) (fun h => by cases h)
theorem rep_bool (b : Bool) : RepA B L m w (.w false false (.bool b)) (.bool b) := .w (.bool _) (fun h => by cases h)
theorem rep_str (b : ByteArray) : RepA B L m w (.w false false (.str b)) (.string b) := .w (.str _) (fun h => by cases h)
theorem RepA.agg_of {o f : Bool} {cs : List PV} {v : Value} (h : RepA B L m w (.w o f (.agg cs)) v) :
    ∃ vs : Array Value, v = .agg vs ∧ cs.length = vs.size ∧ ∀ (j : Nat) (p : PV) (u : Value), cs[j]? = some p → vs[j]? = some u → Rep (Good B L o) w p u := by
  cases h with | w h _ => cases h with | agg hl hr => exact ⟨_, rfl, hl, hr⟩

/-- the cells of a value -/
theorem cells_rep {x : AV} {v : Value} (h : RepA B L m w x v) (hone : x.ok = true) : x.cells.length = v.cells.size ∧
    ∀ (j : Nat) (p : AV) (u : Value), x.cells[j]? = some p → v.cells[j]? = some u → RepA B L m w p u := by
  have one : ∀ {x : AV} {v : Value}, RepA B L m w x v → v.cells = #[v] → x.cells = [x] → x.cells.length = v.cells.size ∧
      ∀ (j : Nat) (p : AV) (u : Value), x.cells[j]? = some p → v.cells[j]? = some u → RepA B L m w p u := by
    intro x v h hv hx
    rw [hv, hx]
    refine ⟨rfl, fun j p u hp hu => ?_⟩
    cases j with
    | zero => simp at hp hu; subst hp; subst hu; exact h
    | succ j => simp at hp
  cases x with
  | w o f q =>
    cases q with
    | agg cs =>
      obtain ⟨vs, rfl, hl, hr⟩ := h.agg_of
      refine ⟨by simpa [AV.cells, Value.cells] using hl, fun j p u hp hu => ?_⟩
      obtain ⟨y, hy, rfl⟩ := getElem?_map_some (by simpa [AV.cells] using hp)
      exact .w (hr j y u hy (by simpa [Value.cells] using hu)) (fun h => by cases h)
    | undef => cases hone
    | tup vs => cases hone
    | _ => exact one h (by cases h with | w h _ => cases h <;> rfl) rfl
  | ptr id ver off => exact one h (by cases h; rfl) rfl
  | msl id ver sz off n => exact one h (by cases h; rfl) rfl
  | mp id => exact one h (by cases h; rfl) rfl
  | agg cs =>
    cases h with
    | agg hl hr => exact ⟨hl, hr⟩
  | tup cs => cases hone
  | fn f c => exact one h (by cases h; rfl) rfl

theorem bool_eq_decide (a b : Int) : (a == b) = decide (a = b) := by
  by_cases h : a = b <;> simp [h]
theorem inI_wrap {k : IntKind} {n : Int} (h : inI k n) : k.wrap n = n := by
  obtain ⟨h1, h2⟩ := h
  cases k <;> simp [IntKind.wrap, IntKind.min, IntKind.max, IntKind.bits, IntKind.signed] at * <;> (try split) <;> omega

theorem binI_ok {op : BinOp} {k : IntKind} {a b : Int} {c : Prop} {p : PV} (h : binI op k a b = some (c, p)) (hc : c) (t : TypeId) :
    ∃ v, (binOp op t (.int k a) (.int k b)).run P w = .ok v w ∧ RepA B L m w (.w false false p) v := by
  cases op <;> simp only [binI] at h <;> first | (cases h; done) | skip
  all_goals simp only [Option.some.injEq, Prod.mk.injEq] at h; obtain ⟨rfl, rfl⟩ := h
  · exact ⟨_, by simp [binOp, Op.intArith, inI_wrap hc], rep_int _ _⟩
  · exact ⟨_, by simp [binOp, Op.intArith, inI_wrap hc], rep_int _ _⟩
  · exact ⟨_, by simp [binOp, Op.intArith, inI_wrap hc], rep_int _ _⟩
  · exact ⟨_, by simp [binOp, Op.intDiv, hc.1, inI_wrap hc.2], rep_int _ _⟩
  · exact ⟨_, by simp [binOp, Op.intDiv, hc], rep_int _ _⟩
  · subst hc
    have hm : min (Int.toNat 1) k.bits = 1 := by cases k <;> rfl
    have e : a.fdiv (2 ^ (1 : Nat)) = a / 2 := by rw [Int.fdiv_eq_ediv_of_nonneg _ (by decide)]; rfl
    refine ⟨.int k (a / 2), ?_, rep_int _ _⟩
    simp only [binOp, Op.shift, if_neg (show ¬ (1 : Int) < 0 by decide), hm, e]
    rfl
  · exact ⟨_, by simp [binOp, Op.intCmp, bool_eq_decide], rep_bool _⟩
  · exact ⟨_, by simp [binOp, Op.intCmp, bne, bool_eq_decide], rep_bool _⟩
  · exact ⟨_, by simp [binOp, Op.intCmp], rep_bool _⟩
  · exact ⟨_, by simp [binOp, Op.intCmp], rep_bool _⟩
  · exact ⟨_, by simp [binOp, Op.intCmp], rep_bool _⟩
  · exact ⟨_, by simp [binOp, Op.intCmp], rep_bool _⟩
end
end Go.Fi

namespace Go.Fi
open Go Go.RowKit

section
variable {P : Program} {B : Base} {L : Nat → Prop} {m : Mm} {w : World}

theorem str_eq (a b : ByteArray) : (a.toList == b.toList) = decide (a = b) := by
  by_cases h : a = b
  · subst h; simp
  · simp only [h, decide_false]
    rw [beq_eq_false_iff_ne]
    intro he
    rw [ByteArray.toList_eq, ByteArray.toList_eq] at he
    apply h
    obtain ⟨⟨x⟩⟩ := a
    obtain ⟨⟨y⟩⟩ := b
    simp at he
    subst he; rfl

theorem bin_ok {t : TypeId} {op : BinOp} {x y p : PV} {c : Prop} {vx vy : Value} {ox fx oy fy : Bool} (h : bin P t op x y = some (c, p)) (hc : c)
    (hx : RepA B L m w (.w ox fx x) vx) (hy : RepA B L m w (.w oy fy y) vy) :
    (∃ v, (binOp op t vx vy).run P w = .ok v w ∧ RepA B L m w (.w false false p) v) ∧ ((∃ k n, vx = .int k n) ∨ (∃ s, vx = .string s) ∨ (∃ s, vx = .bool s)) := by
  unfold bin at h
  split at h
  · rename_i k a k' b
    obtain rfl := hx.int_inv
    obtain rfl := hy.int_inv
    split at h
    · rename_i hk; subst hk
      exact ⟨binI_ok h hc t, .inl ⟨_, _, rfl⟩⟩
    · cases h
  · rename_i a b
    obtain rfl := hx.str_inv
    obtain rfl := hy.str_inv
    refine ⟨?_, .inr (.inl ⟨_, rfl⟩)⟩
    split at h
    · simp only [Option.some.injEq, Prod.mk.injEq] at h; obtain ⟨rfl, rfl⟩ := h
      exact ⟨_, by simp [binOp, Op.stringOp, str_eq], rep_bool _⟩
    · simp only [Option.some.injEq, Prod.mk.injEq] at h; obtain ⟨rfl, rfl⟩ := h
      exact ⟨_, by simp [binOp, Op.stringOp, str_eq], rep_bool _⟩
    · simp only [Option.some.injEq, Prod.mk.injEq] at h; obtain ⟨rfl, rfl⟩ := h
      refine ⟨_, ?_, rep_str _⟩
      have : ¬ (((a.size + b.size : Nat) : Int) > IntKind.i64.max) := by simp [IntKind.max, IntKind.signed, IntKind.bits]; omega
      simp only [binOp, Op.stringOp, if_neg this]; rfl
    · cases h
  · rename_i a b
    obtain rfl := hx.bool_inv
    obtain rfl := hy.bool_inv
    refine ⟨?_, .inr (.inr ⟨_, rfl⟩)⟩
    have hu : isBool P t = true → P.underlying t = some .bool := by
      intro hb
      unfold isBool at hb
      split at hb
      · assumption
      · cases hb
    cases hb : isBool P t with
    | false => rw [hb] at h; cases h
    | true =>
      rw [hb] at h
      simp only [cond_true] at h
      have he := fun d => run_equalIn_bool' (P := P) w d t a b (hu hb)
      split at h
      · simp only [Option.some.injEq, Prod.mk.injEq] at h; obtain ⟨rfl, rfl⟩ := h
        exact ⟨_, by simp [binOp, Op.equal, Op.maxDepth, he 9999], rep_bool _⟩
      · simp only [Option.some.injEq, Prod.mk.injEq] at h; obtain ⟨rfl, rfl⟩ := h
        exact ⟨_, by simp [binOp, Op.equal, Op.maxDepth, he 9999], rep_bool _⟩
      · cases h
  · cases h

/-- equality of structs and arrays of plain leaves -/
theorem eqL_split : ∀ {k r : List Nat} {xs ys : List AV} {b : Bool}, eqL (k ++ r) xs ys = some b →
    ∃ b1 b2, eqL k (xs.take k.length) (ys.take k.length) = some b1 ∧ eqL r (xs.drop k.length) (ys.drop k.length) = some b2 ∧ b = (b1 && b2)
  | [], r, xs, ys, b, h => ⟨true, b, by simp [eqL], by simpa using h, by simp⟩
  | n :: k, r, xs, ys, b, h => by
    cases xs with
    | nil => simp [eqL] at h
    | cons x xs =>
      cases ys with
      | nil => cases x <;> simp [eqL] at h
      | cons y ys =>
        cases x with
        | w o f p =>
          cases y with
          | w o' f' q =>
            simp only [List.cons_append, eqL] at h
            cases hs : eqS n p q with
            | none => simp [hs] at h
            | some t =>
              simp only [hs] at h
              cases hr : eqL (k ++ r) xs ys with
              | none => simp [hr] at h
              | some u =>
                simp only [hr, Option.some.injEq] at h
                obtain ⟨b1, b2, h1, h2, h3⟩ := eqL_split hr
                exact ⟨t && b1, b2, by simp [eqL, hs, h1], by simpa using h2, by rw [← h, h3, Bool.and_assoc]⟩
          | _ => simp [eqL] at h
        | _ => simp [eqL] at h

theorem eqL_len : ∀ {k : List Nat} {xs ys : List AV} {b : Bool}, eqL k xs ys = some b → xs.length = k.length ∧ ys.length = k.length
  | [], xs, ys, b, h => by cases xs with
    | nil => cases ys with
      | nil => exact ⟨rfl, rfl⟩
      | cons y ys => simp [eqL] at h
    | cons x xs => cases x <;> simp [eqL] at h
  | n :: k, xs, ys, b, h => by
    cases xs with
    | nil => simp [eqL] at h
    | cons x xs =>
      cases ys with
      | nil => cases x <;> simp [eqL] at h
      | cons y ys =>
        cases x with
        | w o f p =>
          cases y with
          | w o' f' q =>
            simp only [eqL] at h
            cases hs : eqS n p q with
            | none => simp [hs] at h
            | some t =>
              simp only [hs] at h
              cases hr : eqL k xs ys with
              | none => simp [hr] at h
              | some u => have := eqL_len hr; simp [this.1, this.2]
          | _ => simp [eqL] at h
        | _ => simp [eqL] at h

/-- the cells of an array of values stand for the leaves -/
def Leaves (B : Base) (L : Nat → Prop) (m : Mm) (w : World) (xs : List AV) (vs : Array Value) (off : Nat) : Prop :=
  ∀ (j : Nat) (p : AV), xs[j]? = some p → ∃ v, vs[off + j]? = some v ∧ RepA B L m w p v

theorem Leaves.take {xs : List AV} {vs : Array Value} {off : Nat} (h : Leaves B L m w xs vs off) (k : Nat) : Leaves B L m w (xs.take k) vs off := by
  intro j p hp
  rw [List.getElem?_take] at hp
  split at hp
  · exact h j p hp
  · cases hp
theorem Leaves.drop {xs : List AV} {vs : Array Value} {off : Nat} (h : Leaves B L m w xs vs off) (k : Nat) : Leaves B L m w (xs.drop k) vs (off + k) := by
  intro j p hp
  rw [List.getElem?_drop] at hp
  obtain ⟨v, hv, hr⟩ := h _ p hp
  exact ⟨v, by rw [show off + k + j = off + (k + j) by omega]; exact hv, hr⟩

/-- a part of a value, by its type -/
def PartIs (P : Program) (t : TypeId) (vs : Array Value) (off n : Nat) (V : Value) : Prop :=
  match P.underlying t with
  | some (.struct _) | some (.array _ _) => V = .agg (vs.extract off (off + n))
  | _ => vs[off]? = some V

theorem extract_leaves {xs : List AV} {vs : Array Value} {off n : Nat} (h : Leaves B L m w xs vs off) (hn : xs.length = n) : Leaves B L m w xs (vs.extract off (off + n)) 0 := by
  intro j p hp
  obtain ⟨v, hv, hr⟩ := h j p hp
  have hj : j < n := by rw [← hn]; exact (List.getElem?_eq_some_iff.1 hp).1
  refine ⟨v, ?_, hr⟩
  have hlt := (Array.getElem?_eq_some_iff.1 hv).1
  rw [Array.getElem?_extract]
  simp only [Nat.zero_add]
  rw [if_pos (by omega)]
  exact hv

theorem run_part {t : TypeId} {d : Nat} {k : List Nat} (hl : lvs P d t = some k) (vs : Array Value) (off : Nat) (xs : List AV) (hx : Leaves B L m w xs vs off) (hn : xs.length = k.length) :
    ∃ V, (part t vs off).run P w = .ok V w ∧ PartIs P t vs off k.length V := by
  cases d with
  | zero => cases hl
  | succ d =>
    have scal : ∀ D : TypeDesc, P.underlying t = some D → (∀ fs, D ≠ .struct fs) → (∀ n e, D ≠ .array n e) → k.length = 1 → ∃ V, (part t vs off).run P w = .ok V w ∧ PartIs P t vs off k.length V := by
      intro D hu h1 h2 hk
      have hagg : (isAgg t).run P w = .ok false w := by
        unfold isAgg
        cases D <;> first | exact absurd rfl (h1 _) | exact absurd rfl (h2 _ _) | simp [run_underlying hu]
      cases xs with
      | nil => rw [hk] at hn; cases hn
      | cons x xs =>
        obtain ⟨v, hv, _⟩ := hx 0 x rfl
        refine ⟨v, ?_, ?_⟩
        · simp only [Nat.add_zero] at hv
          simp [part, hagg, hv]
        · unfold PartIs
          rw [hu]
          split
          · rename_i he; injection he with he; exact absurd he (h1 _)
          · rename_i he; injection he with he; exact absurd he (h2 _ _)
          · simpa using hv
    have aggr : ∀ (i : TypeInfo), (∃ fs, P.underlying t = some (.struct fs)) ∨ (∃ n e, P.underlying t = some (.array n e)) → P.info? t = some i → i.size = k.length → ∃ V, (part t vs off).run P w = .ok V w ∧ PartIs P t vs off k.length V := by
      intro i hu hi hs
      refine ⟨.agg (vs.extract off (off + k.length)), ?_, ?_⟩
      · rcases hu with ⟨fs, hu⟩ | ⟨n, e, hu⟩
        · simp [part, isAgg, run_underlying hu, sizeOf, typeInfo, hi, hs]
        · simp [part, isAgg, run_underlying hu, sizeOf, typeInfo, hi, hs]
      · unfold PartIs
        rcases hu with ⟨fs, hu⟩ | ⟨n, e, hu⟩ <;> rw [hu]
    unfold lvs at hl
    split at hl
    · rename_i hu; injection hl with hl; subst hl; exact scal _ hu (fun _ h => by cases h) (fun _ _ h => by cases h) rfl
    · rename_i hu; injection hl with hl; subst hl; exact scal _ hu (fun _ h => by cases h) (fun _ _ h => by cases h) rfl
    · rename_i hu; injection hl with hl; subst hl; exact scal _ hu (fun _ h => by cases h) (fun _ _ h => by cases h) rfl
    · rename_i fs hu
      split at hl
      · cases hl
      · split at hl
        · rename_i i r hi hr
          split at hl
          · rename_i hs; injection hl with hl; subst hl; exact aggr i (.inl ⟨_, hu⟩) hi hs
          · cases hl
        · cases hl
    · rename_i n e hu
      split at hl
      · rename_i k' i it _ _ hit
        split at hl
        · rename_i hs; injection hl with hl; subst hl; exact aggr it (.inr ⟨_, _, hu⟩) hit (by rw [hs.2]; simp)
        · cases hl
      · cases hl
    · cases hl

theorem eqFields_run {d D : Nat} (ih : ∀ t k, lvs P d t = some k → ∀ (xs ys : List AV) (vs us : Array Value) (off off' : Nat) (b : Bool), eqL k xs ys = some b → Leaves B L m w xs vs off → Leaves B L m w ys us off' →
      ∀ V U, PartIs P t vs off k.length V → PartIs P t us off' k.length U → (Op.equalIn D t V U).run P w = .ok b w) (vs us : Array Value) :
    ∀ (fs : List Field) (cur : Nat) (r : List Nat), lvF (lvs P d) fs cur = some r → ∀ (xs ys : List AV) (b : Bool), eqL r xs ys = some b → Leaves B L m w xs vs cur → Leaves B L m w ys us cur →
      (Op.eqFields D vs us fs).run P w = .ok b w
  | [], cur, r, h, xs, ys, b, he, _, _ => by
    injection h with h; subst h
    cases xs with
    | nil => cases ys with
      | nil => simp [eqL] at he; subst he; rfl
      | cons y ys => simp [eqL] at he
    | cons x xs => cases x <;> simp [eqL] at he
  | f :: fs, cur, r, h, xs, ys, b, he, hx, hy => by
    simp only [lvF] at h
    split at h
    · cases h
    · rename_i hno
      obtain ⟨h1, h2⟩ := not_or.1 hno
      have h2 : f.offset = cur := Decidable.not_not.1 h2
      split at h
      · rename_i k hk
        split at h
        · rename_i r' hr'
          injection h with h; subst h
          obtain ⟨b1, b2, e1, e2, rfl⟩ := eqL_split he
          obtain ⟨l1, l2⟩ := eqL_len e1
          obtain ⟨V, hV, pV⟩ := run_part hk vs cur _ (hx.take k.length) l1
          obtain ⟨U, hU, pU⟩ := run_part hk us cur _ (hy.take k.length) l2
          have hq := ih f.type k hk _ _ vs us cur cur b1 e1 (hx.take _) (hy.take _) V U pV pU
          have hrest := eqFields_run ih vs us fs (cur + k.length) r' hr' _ _ b2 e2 (hx.drop _) (hy.drop _)
          simp only [Op.eqFields, ne_eq, h1, not_false_eq_true, if_true, Sem.run_bind, h2, hV, hU, hq, Result.andThen_ok]
          cases b1
          · simp
          · simpa using hrest
        · cases h
      · cases h

theorem eqItems_run {d D e c : Nat} {k : List Nat} (hk : lvs P d e = some k) (hc : c = k.length) (ih : ∀ (xs ys : List AV) (vs us : Array Value) (off off' : Nat) (b : Bool), eqL k xs ys = some b → Leaves B L m w xs vs off → Leaves B L m w ys us off' →
      ∀ V U, PartIs P e vs off k.length V → PartIs P e us off' k.length U → (Op.equalIn D e V U).run P w = .ok b w) (vs us : Array Value) :
    ∀ (n s : Nat) (xs ys : List AV) (b : Bool), eqL (List.replicate n k).flatten xs ys = some b → Leaves B L m w xs vs (s * c) → Leaves B L m w ys us (s * c) →
      (Op.eqItems D e c vs us (List.range' s n)).run P w = .ok b w
  | 0, s, xs, ys, b, he, _, _ => by
    cases xs with
    | nil => cases ys with
      | nil => simp [eqL] at he; subst he; rfl
      | cons y ys => simp [eqL] at he
    | cons x xs => cases x <;> simp [eqL] at he
  | n + 1, s, xs, ys, b, he, hx, hy => by
    rw [List.replicate_succ, List.flatten_cons] at he
    obtain ⟨b1, b2, e1, e2, rfl⟩ := eqL_split he
    obtain ⟨l1, l2⟩ := eqL_len e1
    obtain ⟨V, hV, pV⟩ := run_part hk vs (s * c) _ (hx.take k.length) l1
    obtain ⟨U, hU, pU⟩ := run_part hk us (s * c) _ (hy.take k.length) l2
    have hq := ih _ _ vs us (s * c) (s * c) b1 e1 (hx.take _) (hy.take _) V U pV pU
    have hoff : s * c + k.length = (s + 1) * c := by rw [← hc, Nat.add_mul, Nat.one_mul]
    have hrest := eqItems_run hk hc ih vs us n (s + 1) _ _ b2 e2 (by have := hx.drop k.length; rwa [hoff] at this) (by have := hy.drop k.length; rwa [hoff] at this)
    rw [List.range'_succ]
    simp only [Op.eqItems, Sem.run_bind, hV, hU, hq, Result.andThen_ok]
    cases b1
    · simp
    · simpa using hrest

theorem eq_run : ∀ (d : Nat) (t : TypeId) (k : List Nat), lvs P d t = some k → ∀ D, d ≤ D → ∀ (xs ys : List AV) (vs us : Array Value) (off off' : Nat) (b : Bool), eqL k xs ys = some b → Leaves B L m w xs vs off → Leaves B L m w ys us off' →
      ∀ V U, PartIs P t vs off k.length V → PartIs P t us off' k.length U → (Op.equalIn D t V U).run P w = .ok b w
  | 0, t, k, h, _, _, _, _, _, _, _, _, _, _, _, _, _, _, _, _ => by cases h
  | d + 1, t, k, h, D, hD, xs, ys, vs, us, off, off', b, he, hx, hy, V, U, pV, pU => by
    obtain ⟨D, rfl⟩ : ∃ D', D = D' + 1 := ⟨D - 1, by omega⟩
    have scal : ∀ q : Nat, k = [q] → (P.underlying t = some .bool ∧ q = 0 ∨ (∃ k, P.underlying t = some (.int k)) ∧ q = 1 ∨ P.underlying t = some .string ∧ q = 2) → (Op.equalIn (D + 1) t V U).run P w = .ok b w := by
      intro q hk hu
      subst hk
      obtain ⟨l1, l2⟩ := eqL_len he
      match xs, ys, l1, l2 with
      | [x], [y], _, _ =>
        cases x with
        | w o f p =>
          cases y with
          | w o' f' p' =>
            obtain ⟨v, hv, rv⟩ := hx 0 _ rfl
            obtain ⟨u, huu, ru⟩ := hy 0 _ rfl
            simp only [Nat.add_zero] at hv huu
            have e1 : vs[off]? = some V := by
              rcases hu with ⟨hu, _⟩ | ⟨⟨_, hu⟩, _⟩ | ⟨hu, _⟩ <;> simpa [PartIs, hu] using pV
            have e2 : us[off']? = some U := by
              rcases hu with ⟨hu, _⟩ | ⟨⟨_, hu⟩, _⟩ | ⟨hu, _⟩ <;> simpa [PartIs, hu] using pU
            rw [e1] at hv; injection hv with hv; subst hv
            rw [e2] at huu; injection huu with huu; subst huu
            simp only [eqL] at he
            cases hs : eqS q p p' with
            | none => simp [hs] at he
            | some r =>
              simp only [hs, Option.some.injEq, Bool.and_true] at he
              subst he
              unfold eqS at hs
              split at hs
              · obtain rfl := rv.int_inv
                obtain rfl := ru.int_inv
                split at hs
                · rename_i hkk; subst hkk
                  injection hs with hs; subst hs
                  rcases hu with ⟨_, h0⟩ | ⟨⟨k', hu⟩, _⟩ | ⟨_, h0⟩
                  · cases h0
                  · rw [run_equalIn_int w D t _ k' _ _ hu, bool_eq_decide]
                  · cases h0
                · cases hs
              · obtain rfl := rv.bool_inv
                obtain rfl := ru.bool_inv
                injection hs with hs; subst hs
                rcases hu with ⟨hu, _⟩ | ⟨_, h0⟩ | ⟨_, h0⟩
                · exact run_equalIn_bool' w D t _ _ hu
                · cases h0
                · cases h0
              · obtain rfl := rv.str_inv
                obtain rfl := ru.str_inv
                injection hs with hs; subst hs
                rcases hu with ⟨_, h0⟩ | ⟨_, h0⟩ | ⟨hu, _⟩
                · cases h0
                · cases h0
                · rw [run_equalIn_string w D t _ _ hu, str_eq]
              · cases hs
          | _ => simp [eqL] at he
        | _ => simp [eqL] at he
    unfold lvs at h
    split at h
    · rename_i hu; injection h with h; subst h; exact scal 0 rfl (.inl ⟨hu, rfl⟩)
    · rename_i hu; injection h with h; subst h; exact scal 1 rfl (.inr (.inl ⟨⟨_, hu⟩, rfl⟩))
    · rename_i hu; injection h with h; subst h; exact scal 2 rfl (.inr (.inr ⟨hu, rfl⟩))
    · rename_i fs hu
      split at h
      · cases h
      · rename_i hp
        split at h
        · rename_i i r hi hr
          split at h
          · injection h with h; subst h
            have e1 : V = .agg (vs.extract off (off + r.length)) := by simpa [PartIs, hu] using pV
            have e2 : U = .agg (us.extract off' (off' + r.length)) := by simpa [PartIs, hu] using pU
            subst e1; subst e2
            have hf : P.fieldsOf t = fs := by simp [Program.fieldsOf, hu]
            rw [run_equalIn_struct w D t _ _ (by rw [hf]; exact hu) (by simpa using hp), hf]
            obtain ⟨l1, l2⟩ := eqL_len he
            exact eqFields_run (fun t k hk xs ys vs us off off' b => eq_run d t k hk D (by omega) xs ys vs us off off' b) _ _ fs.toList 0 r hr xs ys b he (extract_leaves hx l1) (extract_leaves hy l2)
          · cases h
        · cases h
    · rename_i n e hu
      split at h
      · rename_i k' i it hk hi hit
        split at h
        · rename_i hs; injection h with h; subst h
          have e1 : V = .agg (vs.extract off (off + (List.replicate n k').flatten.length)) := by simpa [PartIs, hu] using pV
          have e2 : U = .agg (us.extract off' (off' + (List.replicate n k').flatten.length)) := by simpa [PartIs, hu] using pU
          subst e1; subst e2
          rw [run_equalIn_array w D _ _ hu hi, List.range_eq_range']
          obtain ⟨l1, l2⟩ := eqL_len he
          have hcells : P.cellsOf e = k'.length := by simp [Program.cellsOf, hi, hs.1]
          exact eqItems_run hk hcells (fun xs ys vs us off off' b => eq_run d e k' hk D (by omega) xs ys vs us off off' b) _ _ n 0 xs ys b he
            (by simpa using extract_leaves hx l1) (by simpa using extract_leaves hy l2)
        · cases h
      · cases h
    · cases h
end
end Go.Fi

namespace Go.Fi
open Go Go.RowKit

section
variable {P : Program} {B : Base} {m : Mm} {w : World} {H h : Heap} {n : Nat} {env : Env} {a : Act}

theorem agg_rep {L : Nat → Prop} {x : AV} {v : Value} (hx : RepA B L m w x v) (hg : x.isAgg = true) : ∃ vs : Array Value, v = .agg vs ∧ x.cells.length = vs.size ∧ Leaves B L m w x.cells vs 0 := by
  have hok : x.ok = true := by
    cases x with
    | w o f p => cases p <;> first | rfl | (cases hg; done)
    | tup cs => cases hg
    | _ => rfl
  obtain ⟨h1, h2⟩ := cells_rep hx hok
  have hv : ∃ vs, v = .agg vs := by
    cases x with
    | w o f p => cases p with
      | agg cs => obtain ⟨vs, rfl, _⟩ := hx.agg_of; exact ⟨vs, rfl⟩
      | _ => cases hg
    | agg cs => cases hx with | agg _ _ => exact ⟨_, rfl⟩
    | _ => cases hg
  obtain ⟨vs, rfl⟩ := hv
  refine ⟨vs, rfl, h1, fun j p hp => ?_⟩
  have hj : j < vs.size := by rw [← show x.cells.length = vs.size from h1]; exact (List.getElem?_eq_some_iff.1 hp).1
  exact ⟨vs[j], by simp [hj], h2 j p _ hp (by simp [Value.cells, hj])⟩

theorem RepA.ptr_inv {L : Nat → Prop} {id ver off : Nat} {v : Value} (h : RepA B L m w (.ptr id ver off) v) :
    ∃ b C, v = .pointer (some ⟨b, off, none⟩) ∧ m.dom id ∧ (ver ≤ m.top id ∧ ver ≤ C) ∧ m.addr id ver = some (b, C) := by
  cases h with | ptr h1 h2 h3 h4 => exact ⟨_, _, rfl, h1, ⟨h2, h4⟩, h3⟩
theorem RepA.ip_inv {L : Nat → Prop} {o f : Bool} {cells : List PV} {off : Nat} {v : Value} (h : RepA B L m w (.w o f (.ip cells off)) v) :
    ∃ b o' vals, v = .pointer (some ⟨b, o' + off, none⟩) ∧ CellsAt w b o' cells.length vals ∧ (cells ≠ [] → Good B L o b) ∧ ∀ (j : Nat) (p : PV), cells[j]? = some p → Rep (Good B L o) w p (vals j) := by
  cases h with | w h _ => cases h with | ip vals h1 h2 h3 => exact ⟨_, _, vals, rfl, h1, h2, h3⟩

theorem ok_eql (op : BinOp) (hop : op = .eql ∨ op = .neq) (t : TypeId) (x y : Operand) (yt : TypeId) {k : List Nat} {r : Bool} (hq : eqTy P t = some k)
    (he : eqL k (ev env x).cells (ev env y).cells = some r) (hx : RepA B (LB m H) m w (ev env x) (a.eval x)) (hy : RepA B (LB m H) m w (ev env y) (a.eval y)) (gx : (ev env x).isAgg = true) (gy : (ev env y).isAgg = true)
    (o : Oper) (ho : o.op = .binOp op t x y yt) : ValOk P B H m w (execOp a.eval o) (.w false false (.bool (if op = .eql then r else !r))) := by
  obtain ⟨vs, hvs, l1, lx⟩ := agg_rep hx gx
  obtain ⟨us, hus, l2, ly⟩ := agg_rep hy gy
  obtain ⟨e1, e2⟩ := eqL_len he
  unfold eqTy at hq
  have main : P.eqGuardType P.depth t = false → lvs P 6 t = some k → (∃ fs, P.underlying t = some (.struct fs)) ∨ (∃ n e, P.underlying t = some (.array n e)) →
      ValOk P B H m w (execOp a.eval o) (.w false false (.bool (if op = .eql then r else !r))) := by
    intro hg hl hu
    have hrun := eq_run (w := w) 6 t k hl Op.maxDepth (by simp [Op.maxDepth]) _ _ vs us 0 0 r he lx ly (.agg vs) (.agg us)
      (by
        have : vs.extract 0 (0 + k.length) = vs := by rw [Nat.zero_add, ← e1, l1]; simp
        rcases hu with ⟨fs, hu⟩ | ⟨n, e, hu⟩ <;> simp [PartIs, hu] <;> (rw [Nat.zero_add] at this; exact this.symm))
      (by
        have : us.extract 0 (0 + k.length) = us := by rw [Nat.zero_add, ← e2, l2]; simp
        rcases hu with ⟨fs, hu⟩ | ⟨n, e, hu⟩ <;> simp [PartIs, hu] <;> (rw [Nat.zero_add] at this; exact this.symm))
    rcases hop with rfl | rfl
    · exact ⟨_, by simp [execOp, ho, eqGuard, hvs, hus, hg, binOp, Op.equal, hrun], rep_bool _⟩
    · exact ⟨_, by simp [execOp, ho, eqGuard, hvs, hus, hg, binOp, Op.equal, hrun], rep_bool _⟩
  split at hq
  · rename_i fs hu
    split at hq
    · cases hq
    · rename_i hg; exact main (by simpa using hg) hq (.inl ⟨_, hu⟩)
  · rename_i n e hu
    split at hq
    · cases hq
    · rename_i hg; exact main (by simpa using hg) hq (.inr ⟨_, _, hu⟩)
  · cases hq

theorem ok_bin (op : BinOp) (t : TypeId) (x y : Operand) (yt : TypeId) {p q r : PV} {ox fx oy fy : Bool} {c : Prop} (ex : ev env x = .w ox fx p) (ey : ev env y = .w oy fy q) (hb : bin P t op p q = some (c, r)) (hc : c)
    (hx : RepA B (LB m H) m w (ev env x) (a.eval x)) (hy : RepA B (LB m H) m w (ev env y) (a.eval y)) (o : Oper) (ho : o.op = .binOp op t x y yt) : ValOk P B H m w (execOp a.eval o) (.w false false r) := by
  rw [ex] at hx
  rw [ey] at hy
  obtain ⟨⟨v, hv, hr⟩, hk⟩ := bin_ok hb hc hx hy
  refine ⟨v, ?_, hr⟩
  have hg : (eqGuard op t x y (a.eval x) (a.eval y)).run P w = .ok () w := by
    unfold eqGuard
    rcases hk with ⟨k, n, e⟩ | ⟨s, e⟩ | ⟨s, e⟩ <;> rw [e] <;> cases op <;> rfl
  simp [execOp, ho, hg, hv]

theorem ok_makeInterface (t : TypeId) (x : Operand) (o : Oper) (ho : o.op = .makeInterface t x) {c : Prop} {v : AV} {E : List (List AV)} (h0 : aOp P h n (ev env) (.makeInterface t x) = some (c, v, E)) (hx : RepA B (LB m H) m w (ev env x) (a.eval x)) :
    E = [] ∧ ValOk P B H m w (execOp a.eval o) v := by
  simp only [aOp] at h0
  cases hn : nIfc P t with
  | false => rw [hn] at h0; cases h0
  | true =>
    rw [hn] at h0
    simp only [cond_true, Option.some.injEq, Prod.mk.injEq] at h0; obtain ⟨rfl, rfl, rfl⟩ := h0
    refine ⟨rfl, .iface t (a.eval x), ?_, ?_⟩
    · unfold nIfc at hn
      split at hn
      · cases hn
      · rename_i d hd hu
        simp only [execOp, ho, Instr.makeInterface, Sem.run_bind, run_underlying hu, Result.andThen_ok]
        cases d <;> first | rfl | exact absurd rfl (hd _)
      · cases hn
    · unfold ifcA
      split
      · rename_i own f p e
        rw [e] at hx
        cases hx with | w hr _ => exact .w (.ifc hr) (fun _ _ _ _ h => by cases h)
      · exact .w (.undef _) (fun h => by cases h)

theorem ok_un (op : UnOp) (t : TypeId) (x : Operand) (o : Oper) (ho : o.op = .unOp op t x) {c : Prop} {v : AV} {E : List (List AV)} (h0 : aOp P h n (ev env) (.unOp op t x) = some (c, v, E)) (hc : c) (hx : RepA B (LB m H) m w (ev env x) (a.eval x)) :
    E = [] ∧ ValOk P B H m w (execOp a.eval o) v := by
  simp only [aOp] at h0
  split at h0
  · rename_i o' f' b e
    simp only [Option.some.injEq, Prod.mk.injEq] at h0; obtain ⟨rfl, rfl, rfl⟩ := h0
    rw [e] at hx
    exact ⟨rfl, _, by simp [execOp, ho, hx.bool_inv, Op.unary], rep_bool _⟩
  · rename_i o' f' k b e
    simp only [Option.some.injEq, Prod.mk.injEq] at h0; obtain ⟨rfl, rfl, rfl⟩ := h0
    rw [e] at hx
    have : (0 : Int) - b = -b := by omega
    exact ⟨rfl, _, by simp [execOp, ho, hx.int_inv, Op.unary, Op.intArith, this, inI_wrap hc], rep_int _ _⟩
  · cases h0

theorem ok_convert (src dst : TypeId) (x : Operand) (o : Oper) (ho : o.op = .convert src dst x) {c : Prop} {v : AV} {E : List (List AV)} (h0 : aOp P h n (ev env) (.convert src dst x) = some (c, v, E)) (hc : c) (hx : RepA B (LB m H) m w (ev env x) (a.eval x)) :
    E = [] ∧ ValOk P B H m w (execOp a.eval o) v := by
  simp only [aOp] at h0
  split at h0
  · rename_i ks k o' f' k' b hks hk e
    simp only [Option.some.injEq, Prod.mk.injEq] at h0; obtain ⟨rfl, rfl, rfl⟩ := h0
    rw [e] at hx
    have hd : ∃ d, P.underlying src = some d := by
      unfold kindOf at hks
      split at hks
      · exact ⟨_, ‹_›⟩
      · cases hks
    obtain ⟨d, hd⟩ := hd
    unfold kindOf at hk
    split at hk
    · rename_i hu; injection hk with hk; subst hk
      exact ⟨rfl, _, by simp [execOp, ho, hx.int_inv, convert, run_underlying hd, run_underlying hu, Conv.intToInt, inI_wrap hc], rep_int _ _⟩
    · cases hk
  · cases h0

theorem ok_pick (c0 x y : Operand) (o : Oper) (ho : o.op = .pick c0 x y) {c : Prop} {v : AV} {E : List (List AV)} (h0 : aOp P h n (ev env) (.pick c0 x y) = some (c, v, E)) (hc0 : RepA B (LB m H) m w (ev env c0) (a.eval c0)) (hx : RepA B (LB m H) m w (ev env x) (a.eval x)) (hy : RepA B (LB m H) m w (ev env y) (a.eval y)) :
    E = [] ∧ ValOk P B H m w (execOp a.eval o) v := by
  simp only [aOp] at h0
  split at h0
  · rename_i o' f' t e
    rw [e] at hc0
    have hb := hc0.bool_inv
    split at h0
    · rename_i ox fx px oy fy py ex ey
      simp only [Option.some.injEq, Prod.mk.injEq] at h0; obtain ⟨rfl, rfl, rfl⟩ := h0
      rw [ex] at hx; rw [ey] at hy
      refine ⟨rfl, if t then a.eval x else a.eval y, by simp [execOp, ho, hb, asBool], ?_⟩
      rw [hx.bool_inv, hy.bool_inv]
      cases t <;> exact rep_bool _
    · simp only [Option.some.injEq, Prod.mk.injEq] at h0; obtain ⟨rfl, rfl, rfl⟩ := h0
      refine ⟨rfl, if t then a.eval x else a.eval y, by simp [execOp, ho, hb, asBool], ?_⟩
      cases t
      · exact hy
      · exact hx
  · cases h0

theorem ok_fieldAddr (s : TypeId) (x : Operand) (f : Nat) (o : Oper) (ho : o.op = .fieldAddr s x f) {c : Prop} {v : AV} {E : List (List AV)} (h0 : aOp P h n (ev env) (.fieldAddr s x f) = some (c, v, E)) (hx : RepA B (LB m H) m w (ev env x) (a.eval x)) :
    E = [] ∧ ValOk P B H m w (execOp a.eval o) v := by
  simp only [aOp] at h0
  split at h0
  · rename_i off' z g hf
    unfold fOf at hf
    split at hf
    · rename_i fs hu
      split at hf
      · rename_i fd hfd
        cases ht : tyL P fd.type with
        | none => simp [ht] at hf
        | some zz =>
          obtain ⟨z', g'⟩ := zz
          simp only [ht, Option.bind_some] at hf
          split at hf
          · cases hf
          · rename_i hz
            simp only [Option.some.injEq, Prod.mk.injEq] at hf
            obtain ⟨rfl, rfl, rfl⟩ := hf
            have hi : ∃ i, P.info? fd.type = some i ∧ i.size = z' := by
              unfold tyL at ht
              split at ht
              · rename_i i _ hi _; injection ht with ht; injection ht with h1 _; exact ⟨i, hi, h1⟩
              · rename_i i _ _ hi _; injection ht with ht; injection ht with h1 _; exact ⟨i, hi, h1⟩
              · rename_i i _ _ _ hi _; injection ht with ht; injection ht with h1 _; exact ⟨i, hi, h1⟩
              · cases ht
            obtain ⟨i, hi, hiz⟩ := hi
            have hrun : ∀ b off, (Instr.fieldAt s (.pointer (some ⟨b, off, none⟩)) f).run P w = .ok (.pointer (some ⟨b, off + fd.offset, none⟩)) w := by
              intro b off
              have h1 : (fs[f]? : Option Field) = some fd := hfd
              simp [Instr.fieldAt, run_underlying hu, h1, Instr.sureAddr, fieldPlace, sizeOf, typeInfo, hi, hiz, hz, Addr.add_mk]
            split at h0
            · rename_i id ver off e
              simp only [Option.some.injEq, Prod.mk.injEq] at h0; obtain ⟨rfl, rfl, rfl⟩ := h0
              rw [e] at hx
              obtain ⟨b, C, hv, h1, h2, h3⟩ := hx.ptr_inv
              exact ⟨rfl, _, by simp [execOp, ho, hv, hrun], .ptr h1 h2.1 h3 h2.2⟩
            · rename_i own f' cells off e
              simp only [Option.some.injEq, Prod.mk.injEq] at h0; obtain ⟨rfl, rfl, rfl⟩ := h0
              rw [e] at hx
              obtain ⟨b, o', vals, hv, h1, h2, h3⟩ := hx.ip_inv
              refine ⟨rfl, _, by simp [execOp, ho, hv, hrun]; rfl, .w ?_ (fun h => by cases h)⟩
              rw [Nat.add_assoc]
              exact .ip vals h1 h2 h3
            · cases h0
      · cases hf
    · cases hf
  · cases h0
end
end Go.Fi

namespace Go.Fi
open Go Go.RowKit

section
variable {P : Program} {B : Base} {m : Mm} {w : World} {H h : Heap} {n : Nat} {env : Env} {a : Act}

theorem RepA.agg_inv {L : Nat → Prop} {cs : List AV} {v : Value} (h : RepA B L m w (.agg cs) v) :
    ∃ vs : Array Value, v = .agg vs ∧ cs.length = vs.size ∧ ∀ (j : Nat) (p : AV) (u : Value), cs[j]? = some p → vs[j]? = some u → RepA B L m w p u := by
  cases h with | agg h1 h2 => exact ⟨_, rfl, h1, h2⟩
theorem RepA.tup_inv {L : Nat → Prop} {cs : List AV} {v : Value} (h : RepA B L m w (.tup cs) v) :
    ∃ vs : Array Value, v = .tuple vs ∧ cs.length = vs.size ∧ ∀ (j : Nat) (p : AV) (u : Value), cs[j]? = some p → vs[j]? = some u → RepA B L m w p u := by
  cases h with | tup h1 h2 => exact ⟨_, rfl, h1, h2⟩
theorem RepA.wtup_inv {L : Nat → Prop} {o f : Bool} {cs : List PV} {v : Value} (h : RepA B L m w (.w o f (.tup cs)) v) :
    ∃ vs : Array Value, v = .tuple vs ∧ cs.length = vs.size ∧ ∀ (j : Nat) (p : PV) (u : Value), cs[j]? = some p → vs[j]? = some u → Rep (Good B L o) w p u := by
  cases h with | w h _ => cases h with | tup h1 h2 => exact ⟨_, rfl, h1, h2⟩

theorem getD_some {α : Type} {l : List α} {i : Nat} {d : α} (h : i < l.length) : l[i]? = some (l.getD i d) := by
  simp [List.getD, List.getElem?_eq_getElem h]

/-- a part of an aggregate, several cells of it -/
theorem sub_rep {L : Nat → Prop} {cs : List AV} {vs : Array Value} (hl : cs.length = vs.size) (hr : ∀ (j : Nat) (p : AV) (u : Value), cs[j]? = some p → vs[j]? = some u → RepA B L m w p u) (o z : Nat) (hz : o + z ≤ cs.length) :
    RepA B L m w (.agg ((cs.drop o).take z)) (.agg (vs.extract o (o + z))) := by
  refine .agg (by simp; omega) (fun j p u hp hu => ?_)
  rw [List.getElem?_take] at hp
  split at hp
  · rw [List.getElem?_drop] at hp
    rw [Array.getElem?_extract] at hu
    split at hu
    · exact hr _ p u hp hu
    · cases hu
  · cases hp
theorem subP_rep {G : Nat → Prop} {cs : List PV} {vs : Array Value} (hl : cs.length = vs.size) (hr : ∀ (j : Nat) (p : PV) (u : Value), cs[j]? = some p → vs[j]? = some u → Rep G w p u) (o z : Nat) (hz : o + z ≤ cs.length) :
    Rep G w (.agg ((cs.drop o).take z)) (.agg (vs.extract o (o + z))) := by
  refine .agg (by simp; omega) (fun j p u hp hu => ?_)
  rw [List.getElem?_take] at hp
  split at hp
  · rw [List.getElem?_drop] at hp
    rw [Array.getElem?_extract] at hu
    split at hu
    · exact hr _ p u hp hu
    · cases hu
  · cases hp

theorem tyL_spec {t : TypeId} {z : Nat} {g : Bool} (ht : tyL P t = some (z, g)) : ∃ i d, P.info? t = some i ∧ i.size = z ∧ P.underlying t = some d ∧ (isAgg t).run P w = .ok g w := by
  unfold tyL at ht
  split at ht
  · rename_i i fs hi hu; injection ht with ht; injection ht with h1 h2; subst h1; subst h2; exact ⟨i, _, hi, rfl, hu, by simp [isAgg, run_underlying hu]⟩
  · rename_i i n e hi hu; injection ht with ht; injection ht with h1 h2; subst h1; subst h2; exact ⟨i, _, hi, rfl, hu, by simp [isAgg, run_underlying hu]⟩
  · rename_i i d hns hna hi hu; injection ht with ht; injection ht with h1 h2; subst h1; subst h2
    refine ⟨i, d, hi, rfl, hu, ?_⟩
    cases d <;> first | exact absurd rfl (hns _) | exact absurd rfl (hna _ _) | simp [isAgg, run_underlying hu]
  · cases ht

theorem fOf_spec {s : TypeId} {f o z : Nat} {g : Bool} (hf : fOf P s f = some (o, z, g)) : ∃ (fs : Array Field) (fd : Field), P.underlying s = some (.struct fs) ∧ (fs[f]? : Option Field) = some fd ∧ fd.offset = o ∧ tyL P fd.type = some (z, g) := by
  unfold fOf at hf
  split at hf
  · rename_i fs hu
    split at hf
    · rename_i fd hfd
      cases ht : tyL P fd.type with
      | none => simp [ht] at hf
      | some zz =>
        obtain ⟨z', g'⟩ := zz
        simp only [ht, Option.bind_some] at hf
        split at hf
        · cases hf
        · simp only [Option.some.injEq, Prod.mk.injEq] at hf
          obtain ⟨rfl, rfl, rfl⟩ := hf
          exact ⟨fs, fd, hu, hfd, rfl, ht⟩
    · cases hf
  · cases hf

theorem ok_field (s : TypeId) (x : Operand) (f : Nat) (o : Oper) (ho : o.op = .field s x f) {c : Prop} {v : AV} {E : List (List AV)} (h0 : aOp P h n (ev env) (.field s x f) = some (c, v, E)) (hc : c) (hx : RepA B (LB m H) m w (ev env x) (a.eval x)) :
    E = [] ∧ ValOk P B H m w (execOp a.eval o) v := by
  simp only [aOp] at h0
  split at h0
  · rename_i off z g hf
    obtain ⟨fs, fd, hu, hfd, rfl, ht⟩ := fOf_spec hf
    obtain ⟨i, d, hi, hz, _, hagg⟩ := tyL_spec (w := w) ht
    have hrun : ∀ vs : Array Value, (Instr.field s (.agg vs) f).run P w = if g = true then .ok (.agg (vs.extract fd.offset (fd.offset + z))) w else (match vs[fd.offset]? with | some v => .ok v w | none => .halt (.stuck "part: no such cell") w) := by
      intro vs
      cases g
      · simp only [Instr.field, Sem.run_bind, run_underlying hu, Result.andThen_ok, hfd, asAgg, Sem.run_pure, part, hagg]
        cases vs[fd.offset]? <;> simp [stuck]
      · simp only [Instr.field, Sem.run_bind, run_underlying hu, Result.andThen_ok, hfd, asAgg, Sem.run_pure, part, hagg]
        simp [sizeOf, typeInfo, hi, hz]
    split at h0
    · rename_i cs e
      rw [e] at hx
      obtain ⟨vs, hv, hl, hr⟩ := hx.agg_inv
      cases g
      · simp only [cond_false, Option.some.injEq, Prod.mk.injEq] at h0; obtain ⟨rfl, rfl, rfl⟩ := h0
        have hlt : fd.offset < vs.size := by omega
        exact ⟨rfl, vs[fd.offset], by simp [execOp, ho, hv, hrun, hlt], hr _ _ _ (getD_some hc) (by simp [hlt])⟩
      · simp only [cond_true, Option.some.injEq, Prod.mk.injEq] at h0; obtain ⟨rfl, rfl, rfl⟩ := h0
        exact ⟨rfl, _, by simp [execOp, ho, hv, hrun], sub_rep hl hr _ _ hc⟩
    · rename_i own f' cs e
      rw [e] at hx
      obtain ⟨vs, hv, hl, hr⟩ := hx.agg_of
      cases g
      · simp only [cond_false, Option.some.injEq, Prod.mk.injEq] at h0; obtain ⟨rfl, rfl, rfl⟩ := h0
        have hlt : fd.offset < vs.size := by omega
        exact ⟨rfl, vs[fd.offset], by simp [execOp, ho, hv, hrun, hlt], .w (hr _ _ _ (getD_some hc) (by simp [hlt])) (fun h => by cases h)⟩
      · simp only [cond_true, Option.some.injEq, Prod.mk.injEq] at h0; obtain ⟨rfl, rfl, rfl⟩ := h0
        exact ⟨rfl, _, by simp [execOp, ho, hv, hrun], .w (subP_rep hl hr _ _ hc) (fun h => by cases h)⟩
    · cases h0
  · cases h0

theorem slE_spec {t : TypeId} {e z : Nat} (hs : slE P t = some (e, z)) : P.underlying t = some (.slice e) ∧ ∃ i, P.info? e = some i ∧ i.size = z := by
  unfold slE at hs
  split at hs
  · rename_i e' hu
    cases hi : P.info? e' with
    | none => simp [hi] at hs
    | some i =>
      simp only [hi, Option.map_some, Option.some.injEq, Prod.mk.injEq] at hs
      obtain ⟨rfl, rfl⟩ := hs
      exact ⟨hu, i, hi, rfl⟩
  · cases hs
theorem arE_spec {t : TypeId} {k z : Nat} (hs : arE P t = some (k, z)) : ∃ e, P.underlying t = some (.array k e) ∧ ∃ i, P.info? e = some i ∧ i.size = z := by
  unfold arE at hs
  split at hs
  · rename_i n e hu
    cases hi : P.info? e with
    | none => simp [hi] at hs
    | some i =>
      simp only [hi, Option.map_some, Option.some.injEq, Prod.mk.injEq] at hs
      obtain ⟨rfl, rfl⟩ := hs
      exact ⟨e, hu, i, hi, rfl⟩
  · cases hs

theorem RepA.sl_inv {L : Nat → Prop} {o f : Bool} {cells : List PV} {k : Nat} {v : Value} (h : RepA B L m w (.w o f (.sl k cells)) v) :
    ∃ a0 cap, v = .slice a0 k cap ∧ k ≤ cap ∧ (f = true → k = cap) ∧ (a0 = none → k = 0 ∧ cap = 0) ∧ (cells ≠ [] → ∃ b off vals, a0 = some ⟨b, off, none⟩ ∧ CellsAt w b off cells.length vals ∧ Good B L o b ∧ ∀ (j : Nat) (p : PV), cells[j]? = some p → Rep (Good B L o) w p (vals j)) := by
  cases h with
  | w h hf =>
    cases h with
    | slnil => exact ⟨none, 0, rfl, Nat.le_refl _, fun _ => rfl, fun _ => ⟨rfl, rfl⟩, fun h => absurd rfl h⟩
    | sl vals h1 h2 h3 h4 => exact ⟨_, _, rfl, h1, fun e => hf e _ _ _ rfl, (fun e => by cases e), fun hne => ⟨_, _, vals, rfl, h2, h3 hne, h4⟩⟩
    | slz h1 => exact ⟨_, _, rfl, h1, fun e => hf e _ _ _ rfl, (fun e => by cases e), fun h => absurd rfl h⟩

theorem RepA.msl_inv {L : Nat → Prop} {id ver sz off k : Nat} {v : Value} (h : RepA B L m w (.msl id ver sz off k) v) :
    ∃ a0 cap, v = .slice a0 k cap ∧ k ≤ cap ∧ m.dom id ∧ ver ≤ m.top id ∧ (m.addr id ver = none → cap = 0 ∧ ver = 0) ∧
      (∀ b C, m.addr id ver = some (b, C) → (0 < cap → a0 = some ⟨b, off, none⟩) ∧ off + cap * sz ≤ C ∧ ver ≤ off + cap * sz) := by
  cases h with | msl h1 h2 h3 h4 h5 => exact ⟨_, _, rfl, h3, h1, h2, h4, h5⟩

theorem ok_indexAddr (t : TypeId) (x i : Operand) (o : Oper) (ho : o.op = .indexAddr t x i) {c : Prop} {v : AV} {E : List (List AV)} (h0 : aOp P h n (ev env) (.indexAddr t x i) = some (c, v, E)) (hc : c) (hx : RepA B (LB m H) m w (ev env x) (a.eval x)) (hi : RepA B (LB m H) m w (ev env i) (a.eval i)) :
    E = [] ∧ ValOk P B H m w (execOp a.eval o) v := by
  simp only [aOp] at h0
  split at h0
  · rename_i oi fi ki j ei
    rw [ei] at hi
    have hiv := hi.int_inv
    split at h0
    · rename_i e sz hs
      obtain ⟨hu, it, hit, hz⟩ := slE_spec hs
      have hrun : ∀ (b off k cap : Nat), 0 ≤ j → j < k → (Instr.indexAt t (.slice (some ⟨b, off, none⟩) k cap) (.int ki j)).run P w = .ok (.pointer (some ⟨b, off + j.toNat * sz, none⟩)) w := by
        intro b off k cap h1 h2
        simp [Instr.indexAt, asIntOf, run_underlying hu, h1, h2, sizeOf, typeInfo, hit, hz, Addr.add_mk]
      split at h0
      · rename_i own f' k cells e
        simp only [Option.some.injEq, Prod.mk.injEq] at h0; obtain ⟨rfl, rfl, rfl⟩ := h0
        obtain ⟨c1, c2, c3⟩ := hc
        rw [e] at hx
        obtain ⟨a0, cap, hv, _, _, _, hcell⟩ := hx.sl_inv
        obtain ⟨b, off, vals, rfl, h1, h2, h3⟩ := hcell (by intro he; rw [he] at c3; simp at c3)
        exact ⟨rfl, _, by simp [execOp, ho, hv, hiv, hrun b off k cap c1 c2], .w (.ip vals h1 (fun _ => h2) h3) (fun h => by cases h)⟩
      · rename_i id ver z off k e
        simp only [Option.some.injEq, Prod.mk.injEq] at h0; obtain ⟨rfl, rfl, rfl⟩ := h0
        obtain ⟨c1, c2, c3⟩ := hc
        subst c3
        rw [e] at hx
        obtain ⟨a0, cap, hv, h1, h2, h3, h4, h5⟩ := hx.msl_inv
        cases ha : m.addr id ver with
        | none => obtain ⟨h6, _⟩ := h4 ha; omega
        | some bc =>
          obtain ⟨b, C⟩ := bc
          obtain ⟨h6, h8, h9⟩ := h5 b C ha
          have h7 := h6 (by omega)
          subst h7
          exact ⟨rfl, _, by simp [execOp, ho, hv, hiv, hrun b off k cap c1 c2], .ptr h2 h3 ha (by omega)⟩
      · cases h0
    · split at h0
      · rename_i k sz hs
        obtain ⟨e, hu, it, hit, hz⟩ := arE_spec hs
        have hrun : ∀ (b off : Nat), 0 ≤ j → j < k → (Instr.indexAt t (.pointer (some ⟨b, off, none⟩)) (.int ki j)).run P w = .ok (.pointer (some ⟨b, off + j.toNat * sz, none⟩)) w := by
          intro b off h1 h2
          simp [Instr.indexAt, asIntOf, run_underlying hu, h1, h2, sizeOf, typeInfo, hit, hz, Addr.add_mk, Instr.sureAddr]
        split at h0
        · rename_i id ver off e
          simp only [Option.some.injEq, Prod.mk.injEq] at h0; obtain ⟨rfl, rfl, rfl⟩ := h0
          rw [e] at hx
          obtain ⟨b, C, hv, h1, h2, h3⟩ := hx.ptr_inv
          exact ⟨rfl, _, by simp [execOp, ho, hv, hiv, hrun b off hc.1 hc.2], .ptr h1 h2.1 h3 h2.2⟩
        · rename_i own f' cells off e
          simp only [Option.some.injEq, Prod.mk.injEq] at h0; obtain ⟨rfl, rfl, rfl⟩ := h0
          rw [e] at hx
          obtain ⟨b, o', vals, hv, h1, h2, h3⟩ := hx.ip_inv
          refine ⟨rfl, _, by simp [execOp, ho, hv, hiv, hrun b (o' + off) hc.1 hc.2]; rfl, .w ?_ (fun h => by cases h)⟩
          rw [Nat.add_assoc]
          exact .ip vals h1 h2 h3
        · cases h0
      · cases h0
  · cases h0

theorem ok_index (t : TypeId) (x i : Operand) (o : Oper) (ho : o.op = .index t x i) {c : Prop} {v : AV} {E : List (List AV)} (h0 : aOp P h n (ev env) (.index t x i) = some (c, v, E)) (hc : c) (hx : RepA B (LB m H) m w (ev env x) (a.eval x)) (hi : RepA B (LB m H) m w (ev env i) (a.eval i)) :
    E = [] ∧ ValOk P B H m w (execOp a.eval o) v := by
  simp only [aOp] at h0
  split at h0
  · rename_i oi fi ki j ox fx s ei ex
    rw [ei] at hi; rw [ex] at hx
    cases hS : isStr P t with
    | false => rw [hS] at h0; cases h0
    | true =>
      rw [hS] at h0
      simp only [cond_true, Option.some.injEq, Prod.mk.injEq] at h0; obtain ⟨rfl, rfl, rfl⟩ := h0
      have hu : P.underlying t = some .string := by
        unfold isStr at hS
        split at hS
        · assumption
        · cases hS
      obtain ⟨c1, c2⟩ := hc
      have hlt : j.toNat < s.size := by omega
      have hget : s[j.toNat]? = some s[j.toNat] := by simp [hlt]
      have hd : s.data.toList.getD j.toNat 0 = s[j.toNat] := by
        rw [List.getD_eq_getElem?_getD]
        have : s.data.toList[j.toNat]? = some s[j.toNat] := by
          rw [Array.getElem?_toList]
          rw [Array.getElem?_eq_getElem (by simpa using hlt)]
          rfl
        rw [this]; rfl
      exact ⟨rfl, .int .u8 (s.data.toList.getD j.toNat 0).toNat, by rw [hd]; simp [execOp, ho, hx.str_inv, hi.int_inv, Instr.index, asIntOf, run_underlying hu, c1, hget], rep_int _ _⟩
  · cases h0

theorem ok_extract (x : Operand) (i : Nat) (o : Oper) (ho : o.op = .extract x i) {c : Prop} {v : AV} {E : List (List AV)} (h0 : aOp P h n (ev env) (.extract x i) = some (c, v, E)) (hx : RepA B (LB m H) m w (ev env x) (a.eval x)) :
    E = [] ∧ ValOk P B H m w (execOp a.eval o) v := by
  simp only [aOp] at h0
  split at h0
  · rename_i vs e
    rw [e] at hx
    obtain ⟨us, hv, hl, hr⟩ := hx.tup_inv
    split at h0
    · rename_i hlt
      simp only [Option.some.injEq, Prod.mk.injEq] at h0; obtain ⟨rfl, rfl, rfl⟩ := h0
      have hlt' : i < us.size := by omega
      exact ⟨rfl, us[i], by simp [execOp, ho, hv, Instr.extract, hlt'], hr _ _ _ (getD_some hlt) (by simp [hlt'])⟩
    · cases h0
  · rename_i own f' vs e
    rw [e] at hx
    obtain ⟨us, hv, hl, hr⟩ := hx.wtup_inv
    split at h0
    · rename_i hlt
      simp only [Option.some.injEq, Prod.mk.injEq] at h0; obtain ⟨rfl, rfl, rfl⟩ := h0
      have hlt' : i < us.size := by omega
      exact ⟨rfl, us[i], by simp [execOp, ho, hv, Instr.extract, hlt'], .w (hr _ _ _ (getD_some hlt) (by simp [hlt'])) (fun h => by cases h)⟩
    · cases h0
  · cases h0
end
end Go.Fi

namespace Go.Fi
open Go Go.RowKit

section
variable {P : Program} {B : Base} {m : Mm} {w : World} {H h : Heap} {n : Nat} {env : Env} {a : Act}

theorem ok_load (t : TypeId) (x : Operand) (o : Oper) (ho : o.op = .load t x) {c : Prop} {v : AV} {E : List (List AV)} (h0 : aOp P h n (ev env) (.load t x) = some (c, v, E)) (hc : c)
    (hs : Sim0 B H m w) (hlook : ∀ id cs, hget h id = some cs → (id, cs) ∈ H) (hx : RepA B (LB m H) m w (ev env x) (a.eval x)) :
    E = [] ∧ ValOk P B H m w (execOp a.eval o) v := by
  simp only [aOp] at h0
  split at h0
  · rename_i sz g ht
    split at h0
    · rename_i id ver off e
      rw [e] at hx
      obtain ⟨b, C, hv, h1, h2, h3⟩ := hx.ptr_inv
      split at h0
      · rename_i cells hg
        have main : cells.length = ver → off + (bif g then sz else 1) ≤ cells.length → ∃ cs : Array Value, cells.length ≤ cs.size ∧ (∀ (j : Nat) (p : AV) (v : Value), cells[j]? = some p → cs[j]? = some v → RepA B (LB m H) m w p v) ∧
            (execOp a.eval o).run P w = .ok (.value (bif g then .agg ((List.range sz).map fun j => cs.getD (off + j) undef).toArray else cs.getD off undef)) w := by
          intro hver hle
          rw [← hver] at h3
          obtain ⟨cs, e', hh, hC, hle', _, hr⟩ := hs.read (hlook id cells hg) h1 h3 (by omega)
          refine ⟨cs, by omega, hr, ?_⟩
          have hrun := run_loadAt_cells (P := P) (w := w) b off ht (fun j => cs.getD (off + j) undef) (fun j hj => by
            have : off + j < cs.size := by omega
            rw [cell_of hh]
            simp [this])
          simp only [Nat.add_zero] at hrun
          simp [execOp, ho, hv, hrun]
        cases g with
        | false =>
          simp only [cond_false, Option.some.injEq, Prod.mk.injEq] at h0 main
          obtain ⟨rfl, rfl, rfl⟩ := h0
          obtain ⟨cs, hle, hr, hrun⟩ := main hc.1 (by have := hc.2; omega)
          exact ⟨rfl, _, hrun, hr _ _ _ (getD_some hc.2) (by have := hc.2; have : off < cs.size := by omega
                                                             simp [this])⟩
        | true =>
          simp only [cond_true, Option.some.injEq, Prod.mk.injEq] at h0 main
          obtain ⟨rfl, rfl, rfl⟩ := h0
          obtain ⟨cs, hle, hr, hrun⟩ := main hc.1 hc.2
          refine ⟨rfl, _, hrun, .agg (by have := hc.2; simp; omega) (fun j p u hp hu => ?_)⟩
          rw [List.getElem?_take] at hp
          split at hp
          · rw [List.getElem?_drop] at hp
            have hj : off + j < cells.length := (List.getElem?_eq_some_iff.1 hp).1
            have hj' : off + j < cs.size := by omega
            simp only [List.getElem?_toArray, List.getElem?_map] at hu
            rename_i hlt
            rw [List.getElem?_range hlt] at hu
            simp only [Option.map_some, Option.some.injEq] at hu
            refine hr _ p u hp ?_
            rw [← hu]; simp [hj']
          · cases hp
      · cases h0
    · rename_i own f' cells off e
      rw [e] at hx
      obtain ⟨b, o', vals, hv, h1, h2, h3⟩ := hx.ip_inv
      have main : off + (bif g then sz else 1) ≤ cells.length → (execOp a.eval o).run P w = .ok (.value (bif g then .agg ((List.range sz).map fun j => vals (off + j)).toArray else vals off)) w := by
        intro hle
        have hrun := run_loadAt_cells (P := P) (w := w) b (o' + off) ht (fun j => vals (off + j)) (fun j hj => by
          rw [Nat.add_assoc]; exact h1 _ (by omega))
        simp only [Nat.add_zero] at hrun
        simp [execOp, ho, hv, hrun]
      cases g with
      | false =>
        simp only [cond_false, Option.some.injEq, Prod.mk.injEq] at h0 main
        obtain ⟨rfl, rfl, rfl⟩ := h0
        exact ⟨rfl, _, main (by omega), .w (h3 _ _ (getD_some hc)) (fun h => by cases h)⟩
      | true =>
        simp only [cond_true, Option.some.injEq, Prod.mk.injEq] at h0 main
        obtain ⟨rfl, rfl, rfl⟩ := h0
        refine ⟨rfl, _, main hc, .w (.agg (by simp; omega) (fun j p u hp hu => ?_)) (fun h => by cases h)⟩
        rw [List.getElem?_take] at hp
        split at hp
        · rw [List.getElem?_drop] at hp
          simp only [List.getElem?_toArray, List.getElem?_map] at hu
          rename_i hlt
          rw [List.getElem?_range hlt] at hu
          simp only [Option.map_some, Option.some.injEq] at hu
          rw [← hu]
          exact h3 _ p hp
        · cases hp
    · cases h0
  · cases h0

theorem ok_len (args : Array Operand) (tys : Array TypeId) (o : Oper) (ho : o.op = .call { callee := .builtin .len, args := args, argTypes := tys }) {c : Prop} {v : AV} {E : List (List AV)} (h0 : aOp P h n (ev env) (.call { callee := .builtin .len, args := args, argTypes := tys }) = some (c, v, E))
    (hx : ∀ x ∈ args.toList, RepA B (LB m H) m w (ev env x) (a.eval x)) : E = [] ∧ ValOk P B H m w (execOp a.eval o) v := by
  simp only [aOp] at h0
  split at h0
  · rename_i x t hargs htys
    have ha : args = #[x] := by rw [← Array.toArray_toList (xs := args), hargs]
    have ht : tys = #[t] := by rw [← Array.toArray_toList (xs := tys), htys]
    subst ha; subst ht
    have hx := hx x (by simp)
    split at h0
    · rename_i own f' k cells e
      rw [e] at hx
      obtain ⟨a0, cap, hv, _⟩ := hx.sl_inv
      split at h0
      · rename_i es hs
        simp only [Option.some.injEq, Prod.mk.injEq] at h0; obtain ⟨rfl, rfl, rfl⟩ := h0
        obtain ⟨hu, _⟩ := slE_spec (e := es.1) (z := es.2) hs
        exact ⟨rfl, _, by simp [execOp, ho, resolve, invoke, builtin, Builtin.len_, hv, run_underlying hu, goInt], rep_int _ _⟩
      · cases h0
    · rename_i id ver z off k e
      rw [e] at hx
      obtain ⟨a0, cap, hv, _⟩ := hx.msl_inv
      split at h0
      · rename_i es hs
        simp only [Option.some.injEq, Prod.mk.injEq] at h0; obtain ⟨rfl, rfl, rfl⟩ := h0
        obtain ⟨hu, _⟩ := slE_spec (e := es.1) (z := es.2) hs
        exact ⟨rfl, _, by simp [execOp, ho, resolve, invoke, builtin, Builtin.len_, hv, run_underlying hu, goInt], rep_int _ _⟩
      · cases h0
    · rename_i own f' s e
      rw [e] at hx
      cases hS : isStr P t with
      | false => rw [hS] at h0; cases h0
      | true =>
        rw [hS] at h0
        simp only [cond_true, Option.some.injEq, Prod.mk.injEq] at h0; obtain ⟨rfl, rfl, rfl⟩ := h0
        have hu : P.underlying t = some .string := by
          unfold isStr at hS
          split at hS
          · assumption
          · cases hS
        exact ⟨rfl, _, by simp [execOp, ho, resolve, invoke, builtin, Builtin.len_, hx.str_inv, run_underlying hu, goInt], rep_int _ _⟩
    · cases h0
  · cases h0

theorem ok_max (args : Array Operand) (tys : Array TypeId) (o : Oper) (ho : o.op = .call { callee := .builtin .max, args := args, argTypes := tys }) {c : Prop} {v : AV} {E : List (List AV)} (h0 : aOp P h n (ev env) (.call { callee := .builtin .max, args := args, argTypes := tys }) = some (c, v, E))
    (hx : ∀ x ∈ args.toList, RepA B (LB m H) m w (ev env x) (a.eval x)) : E = [] ∧ ValOk P B H m w (execOp a.eval o) v := by
  simp only [aOp] at h0
  split at h0
  · rename_i x y hargs
    have ha : args = #[x, y] := by rw [← Array.toArray_toList (xs := args), hargs]
    subst ha
    have hx1 := hx x (by simp)
    have hx2 := hx y (by simp)
    split at h0
    · rename_i ex ey
      rw [ex] at hx1; rw [ey] at hx2
      split at h0
      · rename_i hk; subst hk
        simp only [Option.some.injEq, Prod.mk.injEq] at h0; obtain ⟨rfl, rfl, rfl⟩ := h0
        exact ⟨rfl, _, by simp [execOp, ho, resolve, invoke, builtin, Builtin.max_, Builtin.max2, hx1.int_inv, hx2.int_inv], rep_int _ _⟩
      · cases h0
    · cases h0
  · cases h0
theorem ok_min (args : Array Operand) (tys : Array TypeId) (o : Oper) (ho : o.op = .call { callee := .builtin .min, args := args, argTypes := tys }) {c : Prop} {v : AV} {E : List (List AV)} (h0 : aOp P h n (ev env) (.call { callee := .builtin .min, args := args, argTypes := tys }) = some (c, v, E))
    (hx : ∀ x ∈ args.toList, RepA B (LB m H) m w (ev env x) (a.eval x)) : E = [] ∧ ValOk P B H m w (execOp a.eval o) v := by
  simp only [aOp] at h0
  split at h0
  · rename_i x y hargs
    have ha : args = #[x, y] := by rw [← Array.toArray_toList (xs := args), hargs]
    subst ha
    have hx1 := hx x (by simp)
    have hx2 := hx y (by simp)
    split at h0
    · rename_i ex ey
      rw [ex] at hx1; rw [ey] at hx2
      split at h0
      · rename_i hk; subst hk
        simp only [Option.some.injEq, Prod.mk.injEq] at h0; obtain ⟨rfl, rfl, rfl⟩ := h0
        exact ⟨rfl, _, by simp [execOp, ho, resolve, invoke, builtin, Builtin.min_, Builtin.min2, hx1.int_inv, hx2.int_inv], rep_int _ _⟩
      · cases h0
    · cases h0
  · cases h0

theorem ok_nilCheck (x : Operand) (o : Oper) (ho : o.op = .nilCheck x) {c : Prop} {v : AV} {E : List (List AV)} (h0 : aOp P h n (ev env) (.nilCheck x) = some (c, v, E))
    (hx : RepA B (LB m H) m w (ev env x) (a.eval x)) : E = [] ∧ ValOk P B H m w (execOp a.eval o) v := by
  simp only [aOp] at h0
  split at h0
  · rename_i id ver off e
    simp only [Option.some.injEq, Prod.mk.injEq] at h0; obtain ⟨rfl, rfl, rfl⟩ := h0
    rw [e] at hx
    obtain ⟨b, C, hv, _⟩ := hx.ptr_inv
    rw [hv] at hx
    exact ⟨rfl, _, by simp [execOp, ho, hv], hx⟩
  · rename_i own f' cells off e
    simp only [Option.some.injEq, Prod.mk.injEq] at h0; obtain ⟨rfl, rfl, rfl⟩ := h0
    rw [e] at hx
    obtain ⟨b, o', vals, hv, _⟩ := hx.ip_inv
    rw [hv] at hx
    exact ⟨rfl, _, by simp [execOp, ho, hv], hx⟩
  · rename_i f cs e
    simp only [Option.some.injEq, Prod.mk.injEq] at h0; obtain ⟨rfl, rfl, rfl⟩ := h0
    rw [e] at hx
    generalize hv : a.eval x = vv at hx
    cases hx with
    | fn h1 h2 => exact ⟨rfl, _, by simp [execOp, ho, hv], .fn h1 h2⟩
  · rename_i own f' g cs e
    simp only [Option.some.injEq, Prod.mk.injEq] at h0; obtain ⟨rfl, rfl, rfl⟩ := h0
    rw [e] at hx
    generalize hv : a.eval x = vv at hx
    cases hx with
    | w hx hf => cases hx with
      | fn h1 h2 => exact ⟨rfl, _, by simp [execOp, ho, hv], .w (.fn h1 h2) (fun e a n c hh => by cases hh)⟩
  · cases h0

theorem ok_makeFunc (fn : Fn) (first captured : Array Operand) (o : Oper) (ho : o.op = .makeFunc fn first captured) {c : Prop} {v : AV} {E : List (List AV)} (h0 : aOp P h n (ev env) (.makeFunc fn first captured) = some (c, v, E))
    (hx : ∀ x ∈ captured.toList, RepA B (LB m H) m w (ev env x) (a.eval x)) : E = [] ∧ ValOk P B H m w (execOp a.eval o) v := by
  cases fn with
  | func f =>
    simp only [aOp] at h0
    split at h0
    · rename_i hz
      have hz : first = #[] := by simpa using hz
      subst hz
      simp only [Option.some.injEq, Prod.mk.injEq] at h0; obtain ⟨rfl, rfl, rfl⟩ := h0
      refine ⟨rfl, _, by simp [execOp, ho, Instr.makeFunc]; rfl, .fn (by simp) (fun j p u hp hu => ?_)⟩
      obtain ⟨x, hx', rfl⟩ := getElem?_map_some hp
      rw [Array.getElem?_map] at hu
      have : captured[j]? = some x := by rw [← Array.getElem?_toList]; exact hx'
      rw [this] at hu
      injection hu with hu; subst hu
      exact hx x (List.mem_of_getElem? hx')
    · cases h0
  | _ => simp [aOp] at h0

end
end Go.Fi

