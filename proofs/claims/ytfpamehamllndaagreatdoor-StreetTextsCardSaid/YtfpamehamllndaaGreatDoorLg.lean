/- A logic of abstract states for this claim (part Lg): lemmas alone. -/
import Derived.Test.YtfpamehamllndaaGreatDoorLf
import Derived.ProofKit
import Derived.Carry
import Derived.ChangeSame
import Derived.ChangeArms
set_option linter.unusedSimpArgs false
set_option linter.unusedVariables false

namespace Go.Fi
open Go Go.RowKit Go.ChangeShapes Go.WideShapes
variable [LaidW]

/-- cells that stand for data -/
def Match (w : World) (ps : List PV) (cs : List Value) : Prop := ps.length = cs.length ∧ ∀ (j : Nat) (p : PV) (v : Value), ps[j]? = some p → cs[j]? = some v → Rep (fun _ => True) w p v
omit [LaidW] in
theorem Match.append {w : World} {a b : List PV} {x y : List Value} (h1 : Match w a x) (h2 : Match w b y) : Match w (a ++ b) (x ++ y) := by
  refine ⟨by rw [List.length_append, List.length_append, h1.1, h2.1], fun j p v hp hv => ?_⟩
  by_cases hj : j < a.length
  · rw [List.getElem?_append_left hj] at hp
    rw [List.getElem?_append_left (by rw [← h1.1]; exact hj)] at hv
    exact h1.2 j p v hp hv
  · have hj : a.length ≤ j := by omega
    rw [List.getElem?_append_right hj] at hp
    rw [List.getElem?_append_right (by rw [← h1.1]; exact hj), ← h1.1] at hv
    exact h2.2 _ p v hp hv
omit [LaidW] in
theorem Match.one {w : World} {p : PV} {v : Value} (h : Rep (fun _ => True) w p v) : Match w [p] [v] := by
  refine ⟨rfl, fun j q u hq hu => ?_⟩
  cases j with
  | zero => simp at hq hu; subst hq; subst hu; exact h
  | succ j => simp at hq

/-- what a type's data look like -/
def Reads (P : Program) (t : TypeId) {α : Type} (c : α → List PV) : Prop :=
  ∀ (H : Type) (enc : TypeId × Value → H) (w : World) (held : Bool) (fuel : Nat) (cs : List Value) (x : DataW H × List MemPlace), DataW.trod enc P w 0 (fun _ => true) held fuel t cs = some x → ∃ y : α, Match w (c y) cs
def ReadsR (P : Program) (fs : List Field) (off : Nat) {α : Type} (c : α → List PV) (s : Nat) : Prop :=
  ∀ (H : Type) (enc : TypeId × Value → H) (w : World) (held : Bool) (n : Nat) (cs : List Value), (∀ f ∈ fs, ∃ x : DataW H × List MemPlace, DataW.trod enc P w 0 (fun _ => true) held n f.type ((cs.drop f.offset).take (P.cellsOf f.type)) = some x) →
    ∃ y : α, Match w (c y) ((cs.drop off).take s)
section
variable {P : Program} {t e : TypeId}
omit [LaidW] in
theorem reads_int {k : IntKind} (ht : P.underlying t = some (.int k)) : Reads P t (fun n : Int => [.int k n]) := by
  intro H enc w held fuel cs x h
  obtain ⟨n, rfl, _, _⟩ := DataW.trod_int ht h
  exact ⟨n, Match.one (.int _ _)⟩
omit [LaidW] in
theorem reads_str (ht : P.underlying t = some .string) : Reads P t (fun s : ByteArray => [.str s]) := by
  intro H enc w held fuel cs x h
  obtain ⟨n, rfl, _, _⟩ := DataW.trod_string ht h
  exact ⟨n, Match.one (.str _)⟩
omit [LaidW] in
theorem reads_map {α β : Type} {c : α → List PV} {c' : β → List PV} (f : α → β) (hc : ∀ y, c y = c' (f y)) (h : Reads P t c) : Reads P t c' := by
  intro H enc w held fuel cs x hx
  obtain ⟨y, hy⟩ := h H enc w held fuel cs x hx
  exact ⟨f y, by rw [← hc]; exact hy⟩
omit [LaidW] in
theorem readsR_nil {off : Nat} : ReadsR P [] off (fun _ : Unit => []) 0 := by
  intro H enc w held n cs _
  exact ⟨(), by simp [Match]⟩
omit [LaidW] in
theorem readsR_cons {f : Field} {fs : List Field} {off s S : Nat} {α β : Type} {c : α → List PV} {c' : β → List PV} (ho : f.offset = off) (hs : P.cellsOf f.type = s) (h : Reads P f.type c) (hr : ReadsR P fs (off + s) c' S) :
    ReadsR P (f :: fs) off (fun y : α × β => c y.1 ++ c' y.2) (s + S) := by
  intro H enc w held n cs hall
  obtain ⟨x, hx⟩ := hall f List.mem_cons_self
  rw [ho, hs] at hx
  obtain ⟨y, hy⟩ := h H enc w held n _ x hx
  obtain ⟨z, hz⟩ := hr H enc w held n cs (fun g hg => hall g (List.mem_cons_of_mem _ hg))
  refine ⟨(y, z), ?_⟩
  rw [List.take_add, List.drop_drop]
  exact hy.append hz
omit [LaidW] in
theorem reads_struct {fs : Array Field} {s : Nat} {α : Type} {c : α → List PV} (ht : P.underlying t = some (.struct fs)) (hs : P.cellsOf t = s) (h : ReadsR P fs.toList 0 c s) : Reads P t c := by
  intro H enc w held fuel cs x hx
  obtain ⟨xs, n, _, _, hl, hxl, hf⟩ := DataW.trod_struct ht hx
  obtain ⟨y, hy⟩ := h H enc w held n cs (fun f hin => by
    obtain ⟨i, hi⟩ := List.mem_iff_getElem?.1 hin
    rw [Array.getElem?_toList] at hi
    have hlt : i < xs.length := by rw [hxl]; exact (Array.getElem?_eq_some_iff.1 hi).1
    exact ⟨xs[i], by rw [hf i f hi]; exact List.getElem?_eq_getElem hlt⟩)
  refine ⟨y, ?_⟩
  rwa [List.drop_zero, List.take_of_length_le (by omega)] at hy
omit [LaidW] in
theorem flat_get {α : Type} {c : α → List PV} {s : Nat} (hl : ∀ x, (c x).length = s) (hs : 0 < s) (l : List α) (j : Nat) (hj : j < l.length * s) : ∃ x, l[j / s]? = some x ∧ (l.flatMap c)[j]? = (c x)[j % s]? := by
  induction l generalizing j with
  | nil => simp at hj
  | cons a l ih =>
    simp only [List.flatMap_cons]
    by_cases h : j < s
    · refine ⟨a, by rw [Nat.div_eq_of_lt h]; rfl, ?_⟩
      rw [List.getElem?_append_left (by rw [hl]; exact h), Nat.mod_eq_of_lt h]
    · have h : s ≤ j := by omega
      rw [List.length_cons, Nat.add_mul] at hj
      obtain ⟨x, h1, h2⟩ := ih (j - s) (by omega)
      refine ⟨x, ?_, ?_⟩
      · rw [Nat.div_eq_sub_div hs h, List.getElem?_cons_succ]; exact h1
      · rw [List.getElem?_append_right (by rw [hl]; exact h), hl, h2, Nat.mod_eq_sub_mod h]
omit [LaidW] in
theorem reads_slice {s : Nat} {α : Type} {c : α → List PV} (ht : P.underlying t = some (.slice e)) (hs : P.cellsOf e = s) (hpos : 0 < s) (hl : ∀ x, (c x).length = s) (h : Reads P e c) : Reads P t (fun l : List α => [.sl l.length (l.flatMap c)]) := by
  intro H enc w held fuel cs x hx
  rcases DataW.trod_slice ht hx with h0 | ⟨a, len, cap, elems, rest, n, _, rfl, _, _, hle, _, hlen, hel, _, _⟩
  · rw [h0.1]; exact ⟨[], Match.one .slnil⟩
  · have each : ∀ i, i < len → ∃ y : α, Match w (c y) ((List.range s).map fun j => (w.cell? ((a.add (i * s)).add j)).getD undef) ∧ ∀ j, j < s → ∃ v, w.cell? ((a.add (i * s)).add j) = some v := by
      intro i hi
      have h1 := hel i hi
      rw [hs, List.getElem?_eq_getElem (by omega)] at h1
      obtain ⟨cs', hcs, hy⟩ := Option.bind_eq_some_iff.1 h1
      obtain ⟨y, hy⟩ := h H enc w held n cs' _ hy
      obtain ⟨_, hcl, hcell⟩ := World.cells?_some hcs
      refine ⟨y, ?_, fun j hj => ⟨cs'[j]'(by omega), by rw [hcell j (by omega)]; exact List.getElem?_eq_getElem _⟩⟩
      have e : (List.range s).map (fun j => (w.cell? ((a.add (i * s)).add j)).getD undef) = cs' := by
        apply List.ext_getElem
        · simp [hcl]
        · intro j h1 h2
          have h3 : j < s := by simpa using h1
          simp only [List.getElem_map, List.getElem_range]
          rw [hcell j (by omega), List.getElem?_eq_getElem h2]; rfl
      rw [e]; exact hy
    have hall : ∃ l : List α, l.length = len ∧ ∀ i y, l[i]? = some y → Match w (c y) ((List.range s).map fun j => (w.cell? ((a.add (i * s)).add j)).getD undef) := by
      have : ∀ m, m ≤ len → ∃ l : List α, l.length = m ∧ ∀ i y, l[i]? = some y → Match w (c y) ((List.range s).map fun j => (w.cell? ((a.add (i * s)).add j)).getD undef) := by
        intro m
        induction m with
        | zero => intro _; exact ⟨[], rfl, fun i y hy => by simp at hy⟩
        | succ m ih =>
          intro hm
          obtain ⟨l, hl1, hl2⟩ := ih (by omega)
          obtain ⟨y, hy, _⟩ := each m (by omega)
          refine ⟨l ++ [y], by simp [hl1], fun i z hz => ?_⟩
          by_cases hi : i < m
          · rw [List.getElem?_append_left (by omega)] at hz
            exact hl2 i z hz
          · have : i = m := by
              have := (List.getElem?_eq_some_iff.1 hz).1
              simp [hl1] at this; omega
            subst this
            rw [List.getElem?_append_right (by omega), hl1] at hz
            simp at hz
            subst hz; exact hy
      exact this len (Nat.le_refl _)
    obtain ⟨l, hl1, hl2⟩ := hall
    refine ⟨l, Match.one ?_⟩
    rw [hl1]
    cases hc0 : l.flatMap c with
    | nil => exact .slz hle
    | cons p ps =>
      rw [← hc0]
      have hflen : (l.flatMap c).length = len * s := by rw [flatMap_len c s hl, hl1]
      have hlen0 : 0 < len := by
        rcases Nat.eq_zero_or_pos len with h | h
        · rw [h, Nat.zero_mul] at hflen; rw [hc0] at hflen; simp at hflen
        · exact h
      obtain ⟨_, _, hex⟩ := each 0 hlen0
      obtain ⟨v0, hv0⟩ := hex 0 hpos
      have hspot : a = ⟨a.block, a.off, none⟩ := by
        obtain ⟨b, o, sp⟩ := a
        cases sp with
        | none => rfl
        | some sp =>
          simp only [World.cell?, Addr.add] at hv0
          split at hv0 <;> simp_all
      have hadd : ∀ i j, (a.add (i * s)).add j = ⟨a.block, a.off + (i * s + j), none⟩ := by
        intro i j
        rw [hspot, Addr.add_mk, Addr.add_mk]
        simp [Nat.add_assoc]
      rw [hspot]
      have hdm : ∀ j, j / s * s + j % s = j := fun j => by rw [Nat.mul_comm]; exact Nat.div_add_mod j s
      have hji : ∀ j, j < len * s → j / s < len := fun j hj => Nat.div_lt_of_lt_mul (by rw [Nat.mul_comm]; exact hj)
      refine .sl (fun j => (w.cell? ⟨a.block, a.off + j, none⟩).getD undef) hle (fun j hj => ?_) (fun _ => trivial) (fun j q hq => ?_)
      · rw [hflen] at hj
        obtain ⟨_, _, hex⟩ := each (j / s) (hji j hj)
        obtain ⟨v, hv⟩ := hex (j % s) (Nat.mod_lt _ hpos)
        rw [hadd, hdm] at hv
        show _ = some ((w.cell? ⟨a.block, a.off + j, none⟩).getD undef)
        rw [hv]; rfl
      · have hj : j < len * s := by rw [← hflen]; exact (List.getElem?_eq_some_iff.1 hq).1
        obtain ⟨y, hy1, hy2⟩ := flat_get hl hpos l j (by rw [hl1]; exact hj)
        rw [hy2] at hq
        have hm := (hl2 (j / s) y hy1).2 (j % s) q ((w.cell? ((a.add (j / s * s)).add (j % s))).getD undef) hq (by
          rw [List.getElem?_map, List.getElem?_range (Nat.mod_lt _ hpos)]; rfl)
        rw [hadd, hdm] at hm
        exact hm
end
end Go.Fi

namespace Go.Fi
open Go Go.RowKit Go.ChangeShapes Go.WideShapes
variable [LaidW]

section
variable {H : Type} {enc : TypeId × Value → H} {P : Program}
omit [LaidW] in
theorem post_of_below {f : Func} {s : ChangeSpec} {apart fresh handsOn again : Bool} {W W' : World} {args : Array Value} {v : Value} {ds gs : List (DataW H)} {before pa pv : List MemPlace}
    (hW : DataW.Whole enc P f.params.toList s.vars apart W args.toList ds gs before)
    (hres : ∀ (b : Nat) (sp : Nat → Bool) (hd : Bool), DataW.TrodAll enc P W' b sp hd f.resultTypes.toList (v.resultList f.resultTypes.size) (s.fn H (ds ++ gs)).results [])
    (hargs : ∀ sp : Nat → Bool, (∀ p ∈ before, sp p.block = true) → DataW.TrodAll enc P W' 0 sp true f.params.toList args.toList (s.fn H (ds ++ gs)).args pa)
    (hvars : ∀ sp : Nat → Bool, (∀ p ∈ before, sp p.block = true) → DataW.TrodVars enc P W' sp s.vars (s.fn H (ds ++ gs)).vars pv)
    (hps : before = pa ++ pv) (hb : Below W.heap.size W W')
    (hok : ∀ (j : Nat) (t : TypeId) (r : Value), f.resultTypes[j]? = some t → (v.resultList f.resultTypes.size)[j]? = some r → Value.okWide P W' .any 0 t r) :
    s.post enc P f apart fresh handsOn again W args v W' := by
  have hlt : ∀ p ∈ before, p.block < W.heap.size := fun p hp => hW.lt p hp
  have hold : ∀ p ∈ before, (fun b => decide (b < W.heap.size)) p.block = true := fun p hp => by simpa using hlt p hp
  refine ⟨ds, gs, before, [], pa, pv, hW, hres _ _ _, hargs _ hold, hvars _ hold, World.keptBut_mono (fun p hp => ⟨hp, ?_⟩) (hb.frame (· ∈ before)), fun _ => ?_⟩
  · rw [hps, List.mem_append] at hp
    exact Or.inr hp
  · obtain ⟨_, _, _, _, _, hz, hn⟩ := hW
    refine ⟨hok, _, _, ([] ++ pa) ++ pv, ⟨[] ++ pa, pv, trodAll_append (hargs _ (fun _ _ => rfl)) (hres _ _ _), hvars _ (fun _ _ => rfl), rfl, ?_, ?_⟩, ?_⟩
    · intro b off hp
      have hin : MemPlace.cell b off ∈ before := by rw [hps]; simpa using hp
      rw [hb.frozen (hlt _ hin)]
      exact hz b off hin
    · intro ha
      have := hn ha
      rw [hps] at this
      simpa using this
    · intro p hp _
      rw [hps]
      simpa using hp

omit [LaidW] in
/-- arguments read behind the call as they did -/
theorem trodAll_below (hl : laidOutB P = true) {W W' : World} (hb : Below W.heap.size W W') {sp : Nat → Bool} : ∀ {ts : List TypeId} {vs : List Value} {ds : List (DataW H)} {ps : List MemPlace}, (∀ t ∈ ts, P.readableRec t = true ∧ t < P.types.size) →
    DataW.TrodAll enc P W 0 (fun _ => true) true ts vs ds ps → (∀ x ∈ ps, x.block < W.heap.size) → (∀ x ∈ ps, sp x.block = true) → DataW.TrodAll enc P W' 0 sp true ts vs ds ps
  | [], [], [], _, _, h, _, _ => h
  | t :: ts, v :: vs, d :: ds, ps, hr, h, hlt, hsp => by
    obtain ⟨p, q, h1, h2, rfl⟩ := h
    refine ⟨p, q, ?_, trodAll_below hl hb (fun t ht => hr t (List.mem_cons_of_mem _ ht)) h2 (fun x hx => hlt x (List.mem_append_right _ hx)) (fun x hx => hsp x (List.mem_append_right _ hx)), rfl⟩
    obtain ⟨r1, r2⟩ := hr t List.mem_cons_self
    exact WideElems.Trod_stays hl r1 r2 h1 (fun x hx => hb.same (hlt x (List.mem_append_left _ hx))) (fun x hx => hsp x (List.mem_append_left _ hx))
  | [], [], _ :: _, _, _, h, _, _ => h.elim
  | [], _ :: _, _, _, _, h, _, _ => h.elim
  | _ :: _, [], _, _, _, h, _, _ => h.elim
  | _ :: _, _ :: _, [], _, _, h, _, _ => h.elim

omit [LaidW] in
/-- IT RETURNS TRUE, AND NOTHING THAT WAS THERE HAS TURNED -/
theorem post_true {f : Func} {s : ChangeSpec} {apart fresh handsOn again : Bool} {W W' : World} {args : Array Value} {ds gs : List (DataW H)} {before : List MemPlace} {tb : TypeId}
    (hl : laidOutB P = true) (hW : DataW.Whole enc P f.params.toList s.vars apart W args.toList ds gs before) (hv : s.vars = []) (hspec : s.fn H (ds ++ gs) = { results := [.lit (.bool true)], args := ds }) (hr : f.resultTypes = #[tb]) (htb : P.underlying tb = some .bool)
    (hread0 : (f.params.toList.all fun t => P.readableRec t && decide (t < P.types.size)) = true) (hb : Below W.heap.size W W') : s.post enc P f apart fresh handsOn again W args (.bool true) W' := by
  have hread : ∀ t ∈ f.params.toList, P.readableRec t = true ∧ t < P.types.size := fun t ht => by
    have := List.all_eq_true.1 hread0 t ht
    simpa using this
  have hlt : ∀ p ∈ before, p.block < W.heap.size := fun p hp => hW.lt p hp
  have hW' := hW
  obtain ⟨p, q, hA, hV, rfl, _, _⟩ := hW
  rw [hv] at hV
  have hq : q = [] ∧ gs = [] := by
    cases gs with
    | nil => exact ⟨hV, rfl⟩
    | cons _ _ => exact hV.elim
  obtain ⟨rfl, rfl⟩ := hq
  refine post_of_below (pa := p) (pv := []) hW' (fun b sp hd => ?_) (fun sp hsp => ?_) (fun sp _ => ?_) rfl hb ?_
  · rw [hspec, hr]
    exact trodAll_mk1 (shut_bool htb true)
  · rw [hspec]
    exact trodAll_below hl hb hread hA (fun x hx => hlt x (by simpa using hx)) (fun x hx => hsp x (by simpa using hx))
  · rw [hspec, hv]; rfl
  · rw [hr]
    intro j t r hj hv
    match j, hj, hv with
    | 0, hj, hv =>
      simp [Value.resultList] at hj hv
      subst hj; subst hv
      simp only [Value.okWide, htb, Cell.okWide, Cell.ok]
end

section
variable {P : Program} {t : TypeId} {W : World}
omit [LaidW] in
theorem rep_struct {α : Type} {c : α → List PV} (h : Reads P t c) {fs : Array Field} (ht : P.underlying t = some (.struct fs)) {r : Reach} {base : Nat} {v : Value} (hval : Value.okWide P W r base t v) {H : Type} {enc : TypeId × Value → H} {held : Bool} {d : DataW H} {ps : List MemPlace}
    (hd : DataW.Trod enc P W 0 (fun _ => true) held t v d ps) : ∃ y : α, Rep (fun _ => True) W (.agg (c y)) v := by
  simp only [Value.okWide, ht] at hval
  obtain ⟨cs, rfl, _, _⟩ := hval
  obtain ⟨fuel, hd⟩ := hd
  obtain ⟨y, hy⟩ := h H enc W held fuel _ _ hd
  simp only [Value.cells] at hy
  exact ⟨y, .agg (by simpa using hy.1) (fun j p u hp hu => hy.2 j p u hp (by rw [Array.getElem?_toList]; exact hu))⟩
end
end Go.Fi

