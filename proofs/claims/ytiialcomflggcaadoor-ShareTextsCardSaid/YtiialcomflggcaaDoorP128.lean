/- Contracts of functions for this claim: lemmas alone. -/
import Derived.Test.YtiialcomflggcaaDoorP127
import Derived.Test.YtiialcomflggcaaDoorP36
import Derived.Test.YtiialcomflggcaaDoorTie
import Derived.Test.YtiialcomflggcaaDoorCards
import Derived.ProofKit
import Derived.HandedShaped
import Derived.Shelf.Vars
import Derived.LaidMore
import Derived.LaidHandle
import Derived.Lay
import Derived.Lib.LaidTab
import Derived.SevenTiedAt
import Derived.Test.YtiialcomflggcaaDoorLg
import Derived.Test.YtiialcomflggcaaDoorLi
set_option linter.unusedSimpArgs false
set_option linter.unusedVariables false
namespace Go.Proofs.YtiialcomflggcaaDoor
open Go Go.Fi Go.RowKit Go.ChangeShapes Go.WideShapes Go.ChangeAt
set_option maxRecDepth 100000

/-! ### what the listed variables give -/
def doorLaid : List (String × DataW Unit) := Rows.shareTextsRow.laid
theorem var_of_open {W : World} (hs : W.ShapedOpen Tryd.prog) : ∃ m, W.var? Tryd.prog "internal/bytealg.MaxLen" = some #[.int .i64 m] := by
  obtain ⟨cs, hh, hz, hr⟩ := hs.1 0 #[.int .i64 0] 3 (Nat.le_of_ble_eq_true (by kernel_rfl)) (by kernel_rfl)
  obtain ⟨m, hm⟩ := cell_of_shapedOpen_int (g := 0) (t := 3) (zero := #[.int .i64 0]) (k := .i64) hs (Nat.le_of_ble_eq_true (by kernel_rfl)) (by kernel_rfl) rfl (by kernel_rfl) (by kernel_rfl) Tryd.underlying3
  refine ⟨m, ?_⟩
  have hv : W.var? Tryd.prog "internal/bytealg.MaxLen" = some cs := by
    unfold World.var?
    rw [show Tryd.prog.globalNamed "internal/bytealg.MaxLen" = some 0 by kernel_rfl]
    simp [hh]
  have h1 : cs.size = 1 := hz
  have hc := World.var?_cell (show Tryd.prog.globalNamed "internal/bytealg.MaxLen" = some 0 by kernel_rfl) hv 0
  rw [hm] at hc
  rw [hv]
  congr 1
  match cs, h1, hc with
  | ⟨[c]⟩, _, hc => simpa using hc.symm
theorem laidOk_of {W : World} (hs : W.ShapedOpen Tryd.prog) : LaidW.ok W := (show LaidOk W from ⟨var_of_open hs⟩)
/-- a world that meets the condition -/
noncomputable def laidBase (os : Os) : World := World.holding Tryd.prog os ⟨#[], #[], []⟩
noncomputable def laidWorld (os : Os) : World := (laidBase os).layVars Tryd.prog (doorLaid.filter fun x => x.2.handleName?.isNone)
theorem laidWorld_os (os : Os) : (laidWorld os).os = os := World.layVars_os _ _ _
theorem laidWorld_met (os : Os) (args : Array Value) : laidMetH Tryd.prog doorLaid ((laidWorld os).forCall (fun _ _ => 0) ⟨#[], args, []⟩).memory := by
  refine laidMetH_of_parts ?_ (by kernel_rfl)
  have hall : ∀ l : List (String × DataW Unit), (l.filter fun x => (l.map (·.1)).contains x.1) = l := fun l => List.filter_eq_self.2 fun x hx => List.contains_iff_mem.2 (List.mem_map.2 ⟨x, hx, rfl⟩)
  have hnon : ∀ l : List (String × DataW Unit), (l.filter fun x => !(l.map (·.1)).contains x.1) = [] := fun l => List.filter_eq_nil_iff.2 fun x hx => by rw [List.contains_iff_mem.2 (List.mem_map.2 ⟨x, hx, rfl⟩)]; simp
  refine laidMet_layVars (w0 := laidBase os) ((doorLaid.filter fun x => x.2.handleName?.isNone).map (·.1)) [] ?_ ?_ ?_ ?_
  · rw [hall]; simp [World.memory, World.forCall, Input.heap, laidWorld]
  · rw [hall]; kernel_rfl
  · rw [hall]; kernel_rfl
  · rw [hnon]; exact LaidIn.none
theorem handed_laid {H : Type} {enc : TypeId × Value → H} {a : Assume} {C : Checked} {os : Os} {f : FuncId} {fn : Func} {s : ChangeSpec} {conds : List PathCond} {apart fresh handsOn again : Bool} {X : World → Array Value → Prop}
    (hX : ∀ (w w' : World) (args : Array Value), w.heap = w'.heap → X w args → X w' args)
    (own : ownKnob C.prog.godebug = none) (started : os.Started) (noInit : C.prog.inits.idxOf? f = none) (hfn : C.prog.funcs[f]? = some fn)
    (witness : ∃ (w : World) (tape : Tape) (i : Input), w.os = os ∧ (w.forCall tape i).Shaped C.prog ∧ i.vars = [] ∧ Input.okWide C.prog (w.forCall tape i) .any w.heap.size f i ∧
      ((s.pre enc C.prog fn conds apart (w.forCall tape i).memory i.args ∧ X (w.forCall tape i).memory i.args) ∧ sizedMet enc C.prog fn (OpenSpec.ofChange s) apart (w.forCall tape i).memory i.args) ∧ a.holds C.prog (lone (Frame.enter C.prog f i.args .normal) [] (w.forCall tape i)))
    (contract : ∀ (W : World) (base : Nat) (args : Array Value) (ds gs : List (DataW H)) (before : List MemPlace),
      (∀ (j : Nat) t v, fn.params[j]? = some t → args[j]? = some v → Value.okWide C.prog W .any base t v) →
      DataW.Whole enc C.prog fn.params.toList s.vars apart W args.toList ds gs before →
      X W args → W.ShapedOpen C.prog →
      Calls C.prog f args W fun e W' => ∃ v, e = .returned v ∧ s.post enc C.prog fn apart fresh handsOn again W args v W') :
    ReturnsInHanded a C os f .any (fun w args => (s.pre enc C.prog fn conds apart w args ∧ X w args) ∧ sizedMet enc C.prog fn (OpenSpec.ofChange s) apart w args) (s.post enc C.prog fn apart fresh handsOn again) := by
  refine returnsInHanded_of_calls own started noInit witness ?_
  intro w tape i _ hsh _ hok hpre hholds
  obtain ⟨_, _, _, fn', hfn', _, _, _, _, hval⟩ := hok
  have e : fn' = fn := Option.some.inj (hfn'.symm.trans hfn)
  subst e
  obtain ⟨⟨⟨ds, gs, before, hw, hc⟩, hx⟩, hz⟩ := hpre
  have hw' := DataW.Whole.of_heap (w' := w.forCall tape i) (by rfl) hw
  refine (contract (w.forCall tape i) w.heap.size i.args ds gs before hval hw' (hX _ _ _ (by rfl) hx) hsh).mono fun e W' ⟨v, he, hp⟩ => ?_
  subst he
  exact ChangeSpec.post_blind hp
theorem shareTexts_lifted (os : Os) (started : os.Started) (H : Type) (enc : TypeId × Value → H) :
    ReturnsInHanded {} Tryd.checked os 3 .any (fun w args => (Rows.shareTextsSpec.pre enc Tryd.prog Tryd.f3 [] false w args ∧ laidMetH Tryd.prog doorLaid w) ∧ sizedMet enc Tryd.prog Tryd.f3 (OpenSpec.ofChange Rows.shareTextsSpec) false w args) (Rows.shareTextsSpec.post enc Tryd.prog Tryd.f3 false true false false) := by
  refine handed_laid (C := Tryd.checked) (X := fun w _ => laidMetH Tryd.prog doorLaid w) (fun _ _ _ hh h => h.of_heap hh) Tryd.own started (by kernel_rfl) Tryd.func3
    (ChangeSpec.witness_shaped (enc := enc) (C := Tryd.checked) (os := os) (X := fun w _ => laidMetH Tryd.prog doorLaid w) false (laidWorld os) #[.agg #[.slice none 0 0], .agg #[.int .i64 0, .int .i64 0, .int .i64 0, .slice none 0 0, .slice none 0 0], .string ByteArray.empty] 8 (laidWorld_os os) (World.shaped_of_ZipB (by kernel_rfl) (by kernel_rfl)) (by kernel_rfl) (by kernel_rfl) (by kernel_rfl) (laidWorld_met os _)) ?_
  intro W base args ds gs before hval0 hW hL hS
  have hval : ∀ (j : Nat) t v, Tryd.f3.params[j]? = some t → args[j]? = some v → Value.okWide Tryd.prog W .any base t v := hval0
  have hW' := hW
  obtain ⟨p, q, hA0, hV, rfl, hfz, hnd⟩ := hW
  have hA : DataW.TrodAll enc Tryd.prog W 0 (fun _ => true) true Tryd.f3.params.toList args.toList ds p := hA0
  rw [Tryd.params3] at hA hval
  obtain ⟨v0, v1, v2, d0, d1, d2, p0, p1, p2, rfl, rfl, rfl, h0, h1, h2⟩ := trodAll_three hA
  obtain ⟨rfl, rfl⟩ := trodVars_none hV
  obtain ⟨x0, e0⟩ := rep_struct reads_grid Tryd.underlying24 (hval 0 24 v0 rfl rfl) h0
  obtain ⟨x1, e1⟩ := rep_struct reads_plan Tryd.underlying30 (hval 1 30 v1 rfl rfl) h1
  obtain ⟨x2, rfl, rfl, rfl, _⟩ := Go.ChangeMaps.open_string Tryd.underlying9 (hval 2 9 v2 rfl rfl) h2
  refine ((shareTexts_c x0 x1 x2).2 (fun _ => True) W _ (laidOk_of hS) rfl ?_).mono fun e W' he => ?_
  · intro j pv v hp hv
    match j, hp, hv with
    | 0, hp, hv => simp at hp hv; subst hp; subst hv; exact e0
    | 1, hp, hv => simp at hp hv; subst hp; subst hv; exact e1
    | 2, hp, hv => simp at hp hv; subst hp; subst hv; exact .str _
  · obtain ⟨v, rfl, hb, hr⟩ := he
    cases hr
    exact ⟨_, rfl, post_true Tryd.laidOut hW' rfl rfl rfl Tryd.underlying4 (by kernel_rfl) hb⟩
end Go.Proofs.YtiialcomflggcaaDoor

