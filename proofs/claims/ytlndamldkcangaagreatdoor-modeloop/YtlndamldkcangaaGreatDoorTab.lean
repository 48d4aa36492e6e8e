/-
  A part of the proof that virgatetop.ModeLoop answers true for every text and every fuel: a table out of what a row lists of it. No condition.
-/
import Derived.Test.YtlndamldkcangaaGreatDoorEvE
import Derived.ProofKit
import Derived.LaidMore
import Derived.OpenShut
import Derived.Stop.Joined
import Derived.Handed
import Derived.MakeChecks
set_option linter.all false
/-! A package-level table of numbers, out of what a row lists of it and of the world's shape. -/
namespace Go.Ev
open Go
set_option linter.unusedSimpArgs false
set_option linter.unusedVariables false
theorem laid_one {P : Program} {w : World} {n : String} {d : DataW Unit} : ∀ {l : List (String × DataW Unit)} {ps : List MemPlace}, DataW.LaidVars P w l ps → (n, d) ∈ l →
    ∃ g t cs fuel p, P.globalNamed n = some g ∧ (P.globals[g]?).map (·.type) = some t ∧ w.var? P n = some cs ∧ DataW.trod (fun _ => ()) P w 0 (fun _ => true) false fuel t cs.toList = some (d, p) := by
  intro l
  induction l with
  | nil => intro ps _ h; cases h
  | cons x l ih =>
    intro ps h hm
    obtain ⟨m, e⟩ := x
    obtain ⟨g, t, cs, fuel, p, q, h1, h2, h3, h4, h5, _⟩ := h
    rcases List.mem_cons.1 hm with hm | hm
    · cases hm; exact ⟨g, t, cs, fuel, p, h1, h2, h3, h4⟩
    · exact ih h5 hm
theorem ints_trod {P : Program} {w : World} {t e : TypeId} {N fuel : Nat} {k : IntKind} {cs : List Value} {xs : List Int} {p : List MemPlace}
    (ht : P.underlying t = some (.array N e)) (he : P.underlying e = some (.int k)) (hc : P.cellsOf e = 1)
    (hd : DataW.trod (fun _ => ()) P w 0 (fun _ => true) false fuel t cs = some (.agg (xs.map fun n => (DataW.lit (.int k n) : DataW Unit)), p)) (hN : xs.length = N) (hct : P.cellsOf t = N) :
    cs = xs.map (Value.int k) := by
  obtain ⟨ys, m, _, ex, hl, hy, hel⟩ := DataW.trod_array ht hd
  have e3 : ys.map (·.1) = xs.map fun n => (DataW.lit (.int k n) : DataW Unit) := (DataW.agg.inj (Prod.mk.inj ex).1).symm
  apply List.ext_getElem?
  intro i
  rcases Nat.lt_or_ge i N with hi | hi
  · have hE := hel i hi
    rw [hc, Nat.mul_one, List.getElem?_eq_getElem (by omega)] at hE
    obtain ⟨z, e1, e2, _⟩ := DataW.trod_int he hE
    have e4 : (ys.map (·.1))[i]? = (xs.map fun n => (DataW.lit (.int k n) : DataW Unit))[i]? := by rw [e3]
    rw [List.getElem?_map, List.getElem?_map, List.getElem?_eq_getElem (by omega : i < ys.length), List.getElem?_eq_getElem (by omega : i < xs.length), e2] at e4
    have hz : z = xs[i]'(by omega) := by simpa using e4
    have h0 : ((cs.drop i).take 1)[0]? = some (.int k z) := by rw [e1]; rfl
    have h1 : cs[i]? = some (.int k z) := by simpa using h0
    rw [h1, List.getElem?_map, List.getElem?_eq_getElem (by omega : i < xs.length), hz]; rfl
  · rw [List.getElem?_eq_none (by omega), List.getElem?_eq_none (by simp; omega)]
theorem tab_of_laid {P : Program} {w : World} {laid : List (String × DataW Unit)} {n : String} {g : Nat} {t e el : TypeId} {k : IntKind} {xs : List Int} {N i : Nat}
    (hm : laidMet P laid w) (hs : w.ShapedOpen P) (hi : laid[i]? = some (n, .agg (xs.map fun z => .lit (.int k z))))
    (hg : P.globalNamed n = some g) (hgs : g < P.globals.size) (ht : (P.globals[g]?).map (·.type) = some t)
    (hrow : (((begin P (fun _ _ => 0) default).world.heap[g]?).bind Obj.row?).map (·.2) = some el)
    (hu : P.underlying t = some (.array N e)) (he : P.underlying e = some (.int k)) (hc : P.cellsOf e = 1) (hct : P.cellsOf t = N) (hN : xs.length = N) :
    ∃ c : Array Value, w.heap[g]? = some (.cells c el (0, 0)) ∧ c.toList = xs.map (Value.int k) := by
  obtain ⟨ps, hv, _, _⟩ := hm
  obtain ⟨g', t', cs, fuel, p, h1, h2, h3, h4⟩ := laid_one hv (List.mem_of_getElem? hi)
  obtain rfl := Option.some.inj (hg.symm.trans h1)
  obtain rfl := Option.some.inj (ht.symm.trans h2)
  have hcs := ints_trod hu he hc h4 hN hct
  obtain ⟨⟨zero, el'⟩, hr, rfl⟩ := Option.map_eq_some_iff.1 hrow
  obtain ⟨c, hc1, _, _⟩ := hs.1 g zero el' hgs hr
  refine ⟨c, hc1, ?_⟩
  have e : c = cs := by
    have h3' := h3
    simp only [World.var?, hg, Option.bind_some, hc1] at h3'
    exact Option.some.inj h3'
  rw [e]; exact hcs
/-- the row's wrap, with what the row lists and the world's shape handed to the contract -/
theorem handed_and_shaped {H : Type} {enc : TypeId × Value → H} {a : Assume} {C : Checked} {os : Os} {f : FuncId} {fn : Func} {s : ChangeSpec} {conds : List PathCond} {apart fresh handsOn again : Bool} {X : World → Array Value → Prop}
    (hX : ∀ (w w' : World) (args : Array Value), w.heap = w'.heap → X w args → X w' args)
    (own : ownKnob C.prog.godebug = none) (started : os.Started) (noInit : C.prog.inits.idxOf? f = none) (hfn : C.prog.funcs[f]? = some fn)
    (witness : ∃ (w : World) (tape : Tape) (i : Input), w.os = os ∧ (w.forCall tape i).Shaped C.prog ∧ i.vars = [] ∧ Input.okWide C.prog (w.forCall tape i) .any w.heap.size f i ∧
      ((s.pre enc C.prog fn conds apart (w.forCall tape i).memory i.args ∧ X (w.forCall tape i).memory i.args) ∧ sizedMet enc C.prog fn (OpenSpec.ofChange s) apart (w.forCall tape i).memory i.args) ∧ a.holds C.prog (Go.lone (Frame.enter C.prog f i.args .normal) [] (w.forCall tape i)))
    (contract : ∀ (W : World) (base : Nat) (args : Array Value) (ds gs : List (DataW H)) (before : List MemPlace),
      (∀ (j : Nat) t v, fn.params[j]? = some t → args[j]? = some v → Value.okWide C.prog W .any base t v) →
      DataW.Whole enc C.prog fn.params.toList s.vars apart W args.toList ds gs before →
      X W args → W.ShapedOpen C.prog →
      Calls C.prog f args W fun e W' => ∃ v, e = .returned v ∧ s.post enc C.prog fn apart fresh handsOn again W args v W') :
    ReturnsInHanded a C os f .any (fun w args => (s.pre enc C.prog fn conds apart w args ∧ X w args) ∧ sizedMet enc C.prog fn (OpenSpec.ofChange s) apart w args) (s.post enc C.prog fn apart fresh handsOn again) := by
  refine returnsInHanded_of_calls own started noInit witness ?_
  intro w tape i _ hsh _ hok hpre _
  obtain ⟨_, _, _, fn', hfn', _, _, _, _, hval⟩ := hok
  have e : fn' = fn := Option.some.inj (hfn'.symm.trans hfn)
  subst e
  obtain ⟨⟨⟨ds, gs, before, hw, hc⟩, hx⟩, hz⟩ := hpre
  have hw' := DataW.Whole.of_heap (w' := w.forCall tape i) (by rfl) hw
  refine (contract (w.forCall tape i) w.heap.size i.args ds gs before hval hw' (hX _ _ _ (by rfl) hx) hsh).mono fun e W' ⟨v, he, hp⟩ => ?_
  subst he
  exact ChangeSpec.post_blind hp
end Go.Ev

