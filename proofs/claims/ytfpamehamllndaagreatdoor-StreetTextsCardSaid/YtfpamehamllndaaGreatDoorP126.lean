/- Contracts of functions for this claim: lemmas alone. -/
import Derived.Test.YtfpamehamllndaaGreatDoorP122
import Derived.Test.YtfpamehamllndaaGreatDoorP16
import Derived.Test.YtfpamehamllndaaGreatDoorTie
import Derived.Test.YtfpamehamllndaaGreatDoorCards
import Derived.ProofKit
import Derived.HandedShaped
import Derived.Shelf.Vars
import Derived.LaidMore
import Derived.LaidHandle
import Derived.Lay
import Derived.Lib.LaidTab
import Derived.SevenTiedAt
import Derived.Test.YtfpamehamllndaaGreatDoorLg
import Derived.Test.YtfpamehamllndaaGreatDoorLi
set_option linter.unusedSimpArgs false
set_option linter.unusedVariables false
namespace Go.Proofs.YtfpamehamllndaaGreatDoor
open Go Go.Fi Go.RowKit Go.ChangeShapes Go.WideShapes Go.ChangeAt
set_option maxRecDepth 100000

/-! ### what the listed variables give -/
def doorLaid : List (String × DataW Unit) := Rows.streetTextsRow.laid
theorem laid_none : (doorLaid.filter fun x => x.2.handleName?.isSome) = [] := by kernel_rfl
theorem laid_plain : doorLaid = [("math/bits.deBruijn32tab", Rows.laid_math_bits_deBruijn32tab), ("math/bits.deBruijn64tab", Rows.laid_math_bits_deBruijn64tab), ("internal/strconv.uint64pow10", Rows.laid_internal_strconv_uint64pow10), ("unicode/utf8.acceptRanges", Rows.laid_unicode_utf8_acceptRanges), ("strconv.ErrRange", Rows.laid_strconv_ErrRange), ("strconv.ErrSyntax", Rows.laid_strconv_ErrSyntax), ("unicode/utf8.first", Rows.laid_unicode_utf8_first)] := by kernel_rfl
theorem laid_tail {P : Program} {x : String × DataW Unit} {r : List (String × DataW Unit)} {w : World} (h : laidMet P (x :: r) w) : laidMet P r w := by
  obtain ⟨ps, hv, hnd, hrows⟩ := h
  obtain ⟨n, d⟩ := x
  obtain ⟨g, t, cs, fuel, p, q, _, _, _, _, hq, rfl⟩ := hv
  exact ⟨q, hq, List.Nodup.sublist (List.sublist_append_right _ _) hnd, fun b off hm => hrows b off (List.mem_append_right _ hm)⟩
theorem laid_iface {P : Program} {n nm : String} {d : DataW Unit} {r : List (String × DataW Unit)} {W : World} {g ti : Nat} (h : laidMet P ((n, .iface nm d) :: r) W)
    (hg : P.globalNamed n = some g) (ht : (P.globals[g]?).map (·.type) = some ti) (hi : (match P.underlying ti with | some (.interface _) => true | _ => false) = true) : ∃ t p, W.var? P n = some #[.iface t p] := by
  obtain ⟨ms, hi⟩ : ∃ ms, P.underlying ti = some (.interface ms) := by
    cases e : P.underlying ti with
    | none => rw [e] at hi; cases hi
    | some d =>
      rw [e] at hi
      cases d <;> first | exact ⟨_, rfl⟩ | cases hi
  obtain ⟨ps, ⟨g0, t0, cs0, f0, p0, q0, hg0, ht0, hv0, hd0, _, e0⟩, _, hrows⟩ := h
  obtain rfl := Option.some.inj (hg.symm.trans hg0)
  obtain rfl := Option.some.inj (ht.symm.trans ht0)
  obtain ⟨f1, u, v, e, _, _⟩ := iface_of_trod hi hd0
  exact ⟨u, v, by rw [hv0, Array.eq_one_of_toList e]⟩
theorem var_of_open {W : World} (hs : W.ShapedOpen Tryz.prog) : ∃ m, W.var? Tryz.prog "internal/bytealg.MaxLen" = some #[.int .i64 m] := by
  obtain ⟨cs, hh, hz, hr⟩ := hs.1 0 #[.int .i64 0] 3 (Nat.le_of_ble_eq_true (by kernel_rfl)) (by kernel_rfl)
  obtain ⟨m, hm⟩ := cell_of_shapedOpen_int (g := 0) (t := 3) (zero := #[.int .i64 0]) (k := .i64) hs (Nat.le_of_ble_eq_true (by kernel_rfl)) (by kernel_rfl) rfl (by kernel_rfl) (by kernel_rfl) Tryz.underlying3
  refine ⟨m, ?_⟩
  have hv : W.var? Tryz.prog "internal/bytealg.MaxLen" = some cs := by
    unfold World.var?
    rw [show Tryz.prog.globalNamed "internal/bytealg.MaxLen" = some 0 by kernel_rfl]
    simp [hh]
  have h1 : cs.size = 1 := hz
  have hc := World.var?_cell (show Tryz.prog.globalNamed "internal/bytealg.MaxLen" = some 0 by kernel_rfl) hv 0
  rw [hm] at hc
  rw [hv]
  congr 1
  match cs, h1, hc with
  | ⟨[c]⟩, _, hc => simpa using hc.symm
theorem laidOk_of {W : World} (h : laidMetH Tryz.prog doorLaid W) (hs : W.ShapedOpen Tryz.prog) : LaidW.ok W := by
  unfold laidMetH at h
  rw [laid_none] at h
  have h1 : laidMet Tryz.prog doorLaid W := h
  rw [laid_plain] at h1
  have h3 := laid_tail (laid_tail h1)
  have h5 := laid_tail (laid_tail h3)
  have h6 := laid_tail h5
  refine (show LaidOk W from ⟨var_of_open hs, ?_, ?_, ?_⟩)
  · exact Lib.tabIs_of_head (g := 1) (zs := Lib.pow10Tab) (k := .u64) (rest := _) (t := 173) (e := 160) (n := 20) (by kernel_rfl) (by kernel_rfl) (by kernel_rfl) (by kernel_rfl) (by kernel_rfl) (by kernel_rfl) (by rw [show Lib.tabData .u64 Lib.pow10Tab = (Rows.laid_internal_strconv_uint64pow10 : DataW Unit) by kernel_rfl]; exact h3)
  · exact laid_iface (g := 2) (ti := 65) h6 (by kernel_rfl) (by kernel_rfl) (by kernel_rfl)
  · exact laid_iface (g := 3) (ti := 65) h5 (by kernel_rfl) (by kernel_rfl) (by kernel_rfl)
/-- a world that meets the condition -/
noncomputable def laidBase (os : Os) : World := World.holding Tryz.prog os ⟨#[], #[], []⟩
noncomputable def laidWorld (os : Os) : World := (laidBase os).layVars Tryz.prog (doorLaid.filter fun x => x.2.handleName?.isNone)
theorem laidWorld_os (os : Os) : (laidWorld os).os = os := World.layVars_os _ _ _
theorem laidWorld_met (os : Os) (args : Array Value) : laidMetH Tryz.prog doorLaid ((laidWorld os).forCall (fun _ _ => 0) ⟨#[], args, []⟩).memory := by
  refine laidMetH_of_parts ?_ (by kernel_rfl)
  have hall : ∀ l : List (String × DataW Unit), (l.filter fun x => (l.map (·.1)).contains x.1) = l := fun l => List.filter_eq_self.2 fun x hx => List.contains_iff_mem.2 (List.mem_map.2 ⟨x, hx, rfl⟩)
  have hnon : ∀ l : List (String × DataW Unit), (l.filter fun x => !(l.map (·.1)).contains x.1) = [] := fun l => List.filter_eq_nil_iff.2 fun x hx => by rw [List.contains_iff_mem.2 (List.mem_map.2 ⟨x, hx, rfl⟩)]; simp
  refine laidMet_layVars (w0 := laidBase os) ((doorLaid.filter fun x => x.2.handleName?.isNone).map (·.1)) [] ?_ ?_ ?_ ?_
  · rw [hall]; simp [World.memory, World.forCall, Input.heap, laidWorld]
  · rw [hall]; kernel_rfl
  · rw [hall]; kernel_rfl
  · rw [hnon]; exact LaidIn.none
theorem handed_laid {H : Type} {enc : TypeId × Value → H} {a : Assume} {C : Checked} {os : Os} {f : FuncId} {fn : Func} {s : ChangeSpec} {conds : List PathCond} {apart fresh handsOn again : Bool} {X : World → Array Value → Prop}
    (hX : ∀ (w w' : World) (args : Array Value), w.heap = w'.heap → X w args → X w' args)
    (own : ownKnob C.prog.godebug = none) (started : os.Started) (noInit : C.prog.inits.idxOf? f = none) (hfn : C.prog.funcs[f]? = some fn)
    (witness : ∃ (w : World) (tape : Tape) (i : Input), w.os = os ∧ (w.forCall tape i).Shaped C.prog ∧ i.vars = [] ∧ Input.okWide C.prog (w.forCall tape i) .any w.heap.size f i ∧
      ((s.pre enc C.prog fn conds apart (w.forCall tape i).memory i.args ∧ X (w.forCall tape i).memory i.args) ∧ sizedMet enc C.prog fn (OpenSpec.ofChange s) apart (w.forCall tape i).memory i.args) ∧ a.holds C.prog (lone (Frame.enter C.prog f i.args .normal) [] (w.forCall tape i)))
    (contract : ∀ (W : World) (base : Nat) (args : Array Value) (ds gs : List (DataW H)) (before : List MemPlace),
      (∀ (j : Nat) t v, fn.params[j]? = some t → args[j]? = some v → Value.okWide C.prog W .any base t v) →
      DataW.Whole enc C.prog fn.params.toList s.vars apart W args.toList ds gs before →
      X W args → W.ShapedOpen C.prog →
      Calls C.prog f args W fun e W' => ∃ v, e = .returned v ∧ s.post enc C.prog fn apart fresh handsOn again W args v W') :
    ReturnsInHanded a C os f .any (fun w args => (s.pre enc C.prog fn conds apart w args ∧ X w args) ∧ sizedMet enc C.prog fn (OpenSpec.ofChange s) apart w args) (s.post enc C.prog fn apart fresh handsOn again) := by
  refine returnsInHanded_of_calls own started noInit witness ?_
  intro w tape i _ hsh _ hok hpre hholds
  obtain ⟨_, _, _, fn', hfn', _, _, _, _, hval⟩ := hok
  have e : fn' = fn := Option.some.inj (hfn'.symm.trans hfn)
  subst e
  obtain ⟨⟨⟨ds, gs, before, hw, hc⟩, hx⟩, hz⟩ := hpre
  have hw' := DataW.Whole.of_heap (w' := w.forCall tape i) (by rfl) hw
  refine (contract (w.forCall tape i) w.heap.size i.args ds gs before hval hw' (hX _ _ _ (by rfl) hx) hsh).mono fun e W' ⟨v, he, hp⟩ => ?_
  subst he
  exact ChangeSpec.post_blind hp
theorem streetTexts_lifted (os : Os) (started : os.Started) (H : Type) (enc : TypeId × Value → H) :
    ReturnsInHanded {} Tryz.checked os 3 .any (fun w args => (Rows.streetTextsSpec.pre enc Tryz.prog Tryz.f3 [] false w args ∧ laidMetH Tryz.prog doorLaid w) ∧ sizedMet enc Tryz.prog Tryz.f3 (OpenSpec.ofChange Rows.streetTextsSpec) false w args) (Rows.streetTextsSpec.post enc Tryz.prog Tryz.f3 false true false false) := by
  refine handed_laid (C := Tryz.checked) (X := fun w _ => laidMetH Tryz.prog doorLaid w) (fun _ _ _ hh h => h.of_heap hh) Tryz.own started (by kernel_rfl) Tryz.func3
    (ChangeSpec.witness_shaped (enc := enc) (C := Tryz.checked) (os := os) (X := fun w _ => laidMetH Tryz.prog doorLaid w) false (laidWorld os) #[.agg #[.slice none 0 0, .slice none 0 0], .string ByteArray.empty] 8 (laidWorld_os os) (World.shaped_of_ZipB (by kernel_rfl) (by kernel_rfl)) (by kernel_rfl) (by kernel_rfl) (by kernel_rfl) (laidWorld_met os _)) ?_
  intro W base args ds gs before hval0 hW hL hS
  have hval : ∀ (j : Nat) t v, Tryz.f3.params[j]? = some t → args[j]? = some v → Value.okWide Tryz.prog W .any base t v := hval0
  have hW' := hW
  obtain ⟨p, q, hA0, hV, rfl, hfz, hnd⟩ := hW
  have hA : DataW.TrodAll enc Tryz.prog W 0 (fun _ => true) true Tryz.f3.params.toList args.toList ds p := hA0
  rw [Tryz.params3] at hA hval
  obtain ⟨v0, v1, d0, d1, p0, p1, rfl, rfl, rfl, h0, h1⟩ := trodAll_two hA
  obtain ⟨rfl, rfl⟩ := trodVars_none hV
  obtain ⟨n, e0⟩ := rep_struct reads_net Tryz.underlying25 (hval 0 25 v0 rfl rfl) h0
  obtain ⟨x1, rfl, rfl, rfl, _⟩ := Go.ChangeMaps.open_string Tryz.underlying9 (hval 1 9 v1 rfl rfl) h1
  refine ((streetTexts_c awake_c n x1).2 (fun _ => True) W _ (laidOk_of hL hS) rfl ?_).mono fun e W' he => ?_
  · intro j pv v hp hv
    match j, hp, hv with
    | 0, hp, hv => simp at hp hv; subst hp; subst hv; exact e0
    | 1, hp, hv => simp at hp hv; subst hp; subst hv; exact .str _
  · obtain ⟨v, rfl, hb, hr⟩ := he
    cases hr
    exact ⟨_, rfl, post_true Tryz.laidOut hW' rfl rfl rfl Tryz.underlying4 (by kernel_rfl) hb⟩
end Go.Proofs.YtfpamehamllndaaGreatDoor

