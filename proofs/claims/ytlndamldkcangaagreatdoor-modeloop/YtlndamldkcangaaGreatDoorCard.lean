/-
  virgatetop.ModeLoop answers true for every text and every fuel, and its arguments read afterwards as before: the tied card. Condition: the listed package-level variables start as the text of the program lays them (the tie of the card).
-/
import Derived.Test.YtlndamldkcangaaGreatDoorRow
import Derived.Test.YtlndamldkcangaaGreatDoorTieA
import Derived.Test.YtlndamldkcangaaGreatDoorTieB
import Derived.Test.YtlndamldkcangaaGreatDoorCards
set_option linter.all false
namespace Go.Proofs.YtlndamldkcangaaGreatDoor
open Go
set_option maxRecDepth 100000
theorem tied : Tryz.prog.laidByTextLater Rows.modeLoopRow.laid [.data, .listed, .sentinel, .sentinel, .data, .data, .data] true :=
  Program.laidByTextLater_by_one 400 8 1000 t1 t2 t3 t4 t5 t6 t7
theorem row_tie : Rows.modeLoopRow.laidByTextAt .later Tryz.pinned [.data, .listed, .sentinel, .sentinel, .data, .data, .data] true :=
  OpenClaim.laidByTextAt_later rfl rfl tied t8
theorem lk : Tryz.prog.looks [] = true := by kernel_rfl
theorem goes3 : Tryz.prog.goes 3 = false := by
  unfold Program.goes
  rw [clo, unf3]
  kernel_rfl
theorem named_ : Tryz.prog.funcNamed "virgate/virgatetop.ModeLoop" = some 3 := by kernel_rfl
theorem goes : Rows.modeLoopRow.goesBy Tryz.pinned.checked.prog = false := by
  show Tryz.prog.goesAt .entering "virgate/virgatetop.ModeLoop" = false
  unfold Program.goesAt Program.goesFrom
  rw [named_, Option.any_some, goes3]
  rfl
theorem modeLoop_card : Rows.ModeLoopCardSaid :=
  Claim7.holds_tied_plain_at .later [] [.data, .listed, .sentinel, .sentinel, .data, .data, .data] true (true, "f7865d3226124a49bc0b0b40dac58d65f74f39f75a459a647d9d2d511ccb0cc2") true
    modeLoop_holds (fun _ h => by cases h) (by kernel_rfl) (fun _ h => by cases h) row_tie rfl ⟨rfl, rfl⟩ (by kernel_rfl) rfl
    (fun f fn hf hfn => by
      obtain rfl : f = 3 := Option.some.inj ((show Tryz.prog.funcNamed "virgate/virgatetop.ModeLoop" = some 3 by kernel_rfl).symm.trans hf) |>.symm
      obtain rfl : fn = Tryz.f3 := (Option.some.inj (Tryz.func3.symm.trans hfn)).symm
      exact ⟨lk.symm, fun j t ht => by
        rw [Tryz.params3] at ht
        have hm : t ∈ [9, 3] := by have := Array.mem_of_getElem? ht; simpa using this
        have hall : ([9, 3].all fun u => !Tryz.prog.wantsStandIn u) = true := by kernel_rfl
        exact (show Tryz.prog.wantsStandIn t = false by simpa using List.all_eq_true.1 hall t hm)⟩)
    goes.symm
#print axioms modeLoop_card
end Go.Proofs.YtlndamldkcangaaGreatDoor

