/-
  A part of the proof that virgatelaw18.RunNil answers true for every fuel: the row. No condition.
-/
import Derived.Test.YtclpmhkmbcdpdaaGreatDoorRun
import Derived.Test.YtclpmhkmbcdpdaaGreatDoorFacts
import Derived.Test.YtclpmhkmbcdpdaaGreatDoorDoor
set_option linter.all false
namespace Go.Proofs.YtclpmhkmbcdpdaaGreatDoor
open Go Go.Ev Go.ChangeShapes Go.WideShapes Go.ChangeAt Go.WideMaps Go.WideElems Go.RowKit
theorem own : ownKnob Tryz.prog.godebug = none := by kernel_rfl
theorem noOv : OvOK Tryz.prog Tryz.env := ⟨fun f g h => by
  have : (Tr.e : Tr (List Value → S → Option (Value × S))).get f = some g := h
  rw [get_e] at this
  cases this⟩
theorem runNil_calls (fuel : Int) (W : World) : Calls Tryz.prog 3 #[.int .i64 fuel] W fun e W' => e = .returned (.bool true) ∧ Kept0 W W' :=
  run_true Tryz.eok noOv (Tryz.run fuel) Tryz.func3 (by kernel_rfl) (by kernel_rfl) (.cons _ _ _ _ (.int _ _) .nil)
theorem kept_of {W W' : World} (h : Kept0 W W') (may : MemPlace → Prop) : W.keptBut W' may := by
  refine ⟨h.os, h.output, fun i hi => ?_⟩
  rw [h.heap i hi]
  cases W.heap[i]? with
  | none => rfl
  | some o => cases o <;> first | exact ⟨rfl, rfl, rfl, fun _ _ => rfl⟩ | exact .inr ⟨rfl, rfl⟩ | rfl
theorem door_met (os : Os) : laidMetH Tryz.prog Rows.runNilRow.laid (V0 os).memory :=
  laidMetH_of_parts3 (fuel := 8) (laidMet_of_run' 8 (met1 os) (met2 os)) (met3 os) (met4 os)
set_option maxRecDepth 100000 in
theorem lifted (os : Os) (started : os.Started) (H : Type) (enc : TypeId × Value → H) :
    ReturnsInHanded {} Tryz.checked os 3 .any (fun w args => (Rows.runNilSpec.pre enc Tryz.prog Tryz.f3 [] Rows.runNilRow.apart w args ∧ laidMetH Tryz.prog Rows.runNilRow.laid w) ∧ sizedMet enc Tryz.prog Tryz.f3 (OpenSpec.ofChange Rows.runNilSpec) Rows.runNilRow.apart w args)
      (Rows.runNilSpec.post enc Tryz.prog Tryz.f3 Rows.runNilRow.apart Rows.runNilRow.fresh Rows.runNilRow.handsOn Rows.runNilRow.again) := by
  refine returnsInHanded_of_change_and (C := Tryz.checked) (X := fun w _ => laidMetH Tryz.prog Rows.runNilRow.laid w) (fun _ _ _ hh h => h.of_heap hh) own started (by kernel_rfl) Tryz.func3
    (ChangeSpec.witness_shaped (enc := enc) (C := Tryz.checked) (os := os) (X := fun w _ => laidMetH Tryz.prog Rows.runNilRow.laid w) false (W0 os) #[.int .i64 0] 8 rfl (World.shaped_of_RefB (sh1 os) (sh2 os)) (ok1 os) (pre1 os enc) (siz1 os enc) (door_met os)) ?_
  intro W base args ds gs before hval0 hW _ _ hL _
  have hval : ∀ (j : Nat) t v, Tryz.f3.params[j]? = some t → args[j]? = some v → Value.okWide Tryz.prog W .any base t v := hval0
  have hW' := hW
  obtain ⟨p, q, hA0, hV, rfl, hfz, hnd⟩ := hW
  have hA : DataW.TrodAll enc Tryz.prog W 0 (fun _ => true) true Tryz.f3.params.toList args.toList ds p := hA0
  rw [Tryz.params3] at hA hval
  obtain ⟨v0, d0, rfl, rfl, h0⟩ := trodAll_one hA
  obtain ⟨rfl, rfl⟩ := trodVars_none hV
  obtain ⟨a, rfl, rfl, rfl, wa⟩ := open_int Tryz.underlying3 (hval 0 3 v0 rfl rfl) h0
  clear hA0 hval0
  simp only [List.append_nil] at hW'
  refine (runNil_calls a W).mono fun e W' ⟨he, hk⟩ => ?_
  subst he
  exact ⟨_, rfl, [.lit (.int .i64 a)], [], [], [], [], [], hW', trodAll_mk1 (shut_bool Tryz.underlying4 _), trodAll_mk1 (shut_int Tryz.underlying3 wa), rfl, kept_of hk _, fun h => by cases h⟩
end Go.Proofs.YtclpmhkmbcdpdaaGreatDoor
namespace Go.Proofs.YtclpmhkmbcdpdaaGreatDoor
open Go
theorem runNil_holds : Rows.RunNilSaid :=
  OpenClaim.holds_of_wide 3 Tryz.f3 rfl rfl rfl rfl rfl rfl rfl ⟨rfl, rfl, rfl, rfl, rfl⟩ rfl rfl rfl rfl rfl (by kernel_rfl) Tryz.func3 closed3
    (of_decide_eq_true (by kernel_rfl)) (by unfold Func.isWrapper; first | (rw [if_pos (by decide +kernel)]; kernel_rfl) | (rw [if_neg (by decide +kernel)]; exact ⟨rfl, rfl⟩))
    (fun os started H enc _ => lifted os started H enc)
end Go.Proofs.YtclpmhkmbcdpdaaGreatDoor

