/-
  A part of the proof that virgatetop.ModeLoop answers true for every text and every fuel: the row. No condition.
-/
import Derived.Test.YtlndamldkcangaaGreatDoorLaw
import Derived.Test.YtlndamldkcangaaGreatDoorFacts
import Derived.Test.YtlndamldkcangaaGreatDoorDoor
import Derived.Test.YtlndamldkcangaaGreatDoorTab
set_option linter.all false
namespace Go.Proofs.YtlndamldkcangaaGreatDoor
open Go Go.Ev Go.ChangeShapes Go.WideShapes Go.ChangeAt Go.WideMaps Go.WideElems Go.RowKit
set_option maxRecDepth 100000
theorem own : ownKnob Tryz.prog.godebug = none := by kernel_rfl
noncomputable def spaceZ : List Int := [0, 0, 0, 0, 0, 0, 0, 0, 0, 1, 1, 1, 1, 1, 0, 0, 0, 0, 0, 0, 0, 0, 0, 0, 0, 0, 0, 0, 0, 0, 0, 0, 1, 0, 0, 0, 0, 0, 0, 0, 0, 0, 0, 0, 0, 0, 0, 0, 0, 0, 0, 0, 0, 0, 0, 0, 0, 0, 0, 0, 0, 0, 0, 0, 0, 0, 0, 0, 0, 0, 0, 0, 0, 0, 0, 0, 0, 0, 0, 0, 0, 0, 0, 0, 0, 0, 0, 0, 0, 0, 0, 0, 0, 0, 0, 0, 0, 0, 0, 0, 0, 0, 0, 0, 0, 0, 0, 0, 0, 0, 0, 0, 0, 0, 0, 0, 0, 0, 0, 0, 0, 0, 0, 0, 0, 0, 0, 0, 0, 0, 0, 0, 0, 0, 0, 0, 0, 0, 0, 0, 0, 0, 0, 0, 0, 0, 0, 0, 0, 0, 0, 0, 0, 0, 0, 0, 0, 0, 0, 0, 0, 0, 0, 0, 0, 0, 0, 0, 0, 0, 0, 0, 0, 0, 0, 0, 0, 0, 0, 0, 0, 0, 0, 0, 0, 0, 0, 0, 0, 0, 0, 0, 0, 0, 0, 0, 0, 0, 0, 0, 0, 0, 0, 0, 0, 0, 0, 0, 0, 0, 0, 0, 0, 0, 0, 0, 0, 0, 0, 0, 0, 0, 0, 0, 0, 0, 0, 0, 0, 0, 0, 0, 0, 0, 0, 0, 0, 0, 0, 0, 0, 0, 0, 0, 0, 0, 0, 0, 0, 0, 0, 0, 0, 0, 0, 0]
noncomputable def powZ : List Int := [1, 10, 100, 1000, 10000, 100000, 1000000, 10000000, 100000000, 1000000000, 10000000000, 100000000000, 1000000000000, 10000000000000, 100000000000000, 1000000000000000, 10000000000000000, 100000000000000000, 1000000000000000000, 10000000000000000000]
theorem laidPlain : (Rows.modeLoopRow.laid.all fun x => x.2.handleName?.isNone) = true := by kernel_rfl
theorem tabs (W : World) (hm : laidMetH Tryz.prog Rows.modeLoopRow.laid W) (hs : W.ShapedOpen Tryz.prog) : Tabs W := by
  rw [MakeChecks.laidMetH_plain _ _ _ laidPlain] at hm
  obtain ⟨c0, h0, e0⟩ := tab_of_laid (n := "strings.asciiSpace") (g := 0) (i := 0) (xs := spaceZ) (k := .u8) (N := 256) (el := 482) (t := 482) (e := 5) hm hs (by kernel_rfl) (by kernel_rfl) (of_decide_eq_true (by kernel_rfl)) (by kernel_rfl) (by kernel_rfl) Tryz.underlying482 Tryz.underlying5 (by kernel_rfl) (by kernel_rfl) (by kernel_rfl)
  obtain ⟨c2, h2, e2⟩ := tab_of_laid (n := "internal/strconv.uint64pow10") (g := 2) (i := 4) (xs := powZ) (k := .u64) (N := 20) (el := 544) (t := 544) (e := 278) hm hs (by kernel_rfl) (by kernel_rfl) (of_decide_eq_true (by kernel_rfl)) (by kernel_rfl) (by kernel_rfl) Tryz.underlying544 Tryz.underlying278 (by kernel_rfl) (by kernel_rfl) (by kernel_rfl)
  exact ⟨⟨c0, h0, e0.trans (show spaceZ.map (Value.int .u8) = Tryz.cs0 by kernel_rfl)⟩, ⟨c2, h2, e2.trans (show powZ.map (Value.int .u64) = Tryz.cs2 by kernel_rfl)⟩⟩
theorem kept_of {W W' : World} (h : Kept0 W W') (may : MemPlace → Prop) : W.keptBut W' may := by
  refine ⟨h.os, h.output, fun i hi => ?_⟩
  rw [h.heap i hi]
  cases W.heap[i]? with
  | none => rfl
  | some o => cases o <;> first | exact ⟨rfl, rfl, rfl, fun _ _ => rfl⟩ | exact .inr ⟨rfl, rfl⟩ | rfl
theorem door_met (os : Os) : laidMetH Tryz.prog Rows.modeLoopRow.laid (V0 os).memory :=
  laidMetH_of_parts3 (fuel := 8) (laidMet_of_run' 8 (met1 os) (met2 os)) (met3 os) (met4 os)
theorem lifted (os : Os) (started : os.Started) (H : Type) (enc : TypeId × Value → H) :
    ReturnsInHanded {} Tryz.checked os 3 .any (fun w args => (Rows.modeLoopSpec.pre enc Tryz.prog Tryz.f3 [] Rows.modeLoopRow.apart w args ∧ laidMetH Tryz.prog Rows.modeLoopRow.laid w) ∧ sizedMet enc Tryz.prog Tryz.f3 (OpenSpec.ofChange Rows.modeLoopSpec) Rows.modeLoopRow.apart w args)
      (Rows.modeLoopSpec.post enc Tryz.prog Tryz.f3 Rows.modeLoopRow.apart Rows.modeLoopRow.fresh Rows.modeLoopRow.handsOn Rows.modeLoopRow.again) := by
  refine handed_and_shaped (C := Tryz.checked) (X := fun w _ => laidMetH Tryz.prog Rows.modeLoopRow.laid w) (fun _ _ _ hh h => h.of_heap hh) own started (by kernel_rfl) Tryz.func3
    (ChangeSpec.witness_shaped (enc := enc) (C := Tryz.checked) (os := os) (X := fun w _ => laidMetH Tryz.prog Rows.modeLoopRow.laid w) false (W0 os) #[.string ⟨⟨[97]⟩⟩, .int .i64 0] 8 rfl (World.shaped_of_RefB (sh1 os) (sh2 os)) (ok1 os) (pre1 os enc) (siz1 os enc) (door_met os)) ?_
  intro W base args ds gs before hval0 hW hL hS
  have hval : ∀ (j : Nat) t v, Tryz.f3.params[j]? = some t → args[j]? = some v → Value.okWide Tryz.prog W .any base t v := hval0
  have hW' := hW
  obtain ⟨p, q, hA0, hV, rfl, hfz, hnd⟩ := hW
  have hA : DataW.TrodAll enc Tryz.prog W 0 (fun _ => true) true Tryz.f3.params.toList args.toList ds p := hA0
  rw [Tryz.params3] at hA hval
  obtain ⟨v0, v1, d0, d1, p0, p1, rfl, rfl, rfl, h0, h1⟩ := trodAll_two hA
  obtain ⟨rfl, rfl⟩ := trodVars_none hV
  obtain ⟨s, rfl, rfl, rfl, w0⟩ := Go.ChangeMaps.open_string Tryz.underlying9 (hval 0 9 v0 rfl rfl) h0
  obtain ⟨n, rfl, rfl, rfl, w1⟩ := open_int Tryz.underlying3 (hval 1 3 v1 rfl rfl) h1
  clear hA0 hval0
  simp only [List.append_nil] at hW'
  refine (law_calls (tabs W hL hS) s n w0).mono fun e W' ⟨he, hk⟩ => ?_
  subst he
  exact ⟨_, rfl, [.lit (.string s.data.toList), .lit (.int .i64 n)], [], [], [], [], [], hW', trodAll_mk1 (shut_bool Tryz.underlying4 _), trodAll_mk2 (Go.ChangeMaps.shut_string Tryz.underlying9 w0) (shut_int Tryz.underlying3 w1), rfl, kept_of hk _, fun h => by cases h⟩
theorem modeLoop_holds : Rows.ModeLoopSaid :=
  OpenClaim.holds_of_wide 3 Tryz.f3 rfl rfl rfl rfl rfl rfl rfl ⟨rfl, rfl, rfl, rfl, rfl⟩ rfl rfl rfl rfl rfl (by kernel_rfl) Tryz.func3 closed3
    (of_decide_eq_true (by kernel_rfl)) (by unfold Func.isWrapper; first | (rw [if_pos (by decide +kernel)]; kernel_rfl) | (rw [if_neg (by decide +kernel)]; exact ⟨rfl, rfl⟩))
    (fun os started H enc _ => lifted os started H enc)
end Go.Proofs.YtlndamldkcangaaGreatDoor

