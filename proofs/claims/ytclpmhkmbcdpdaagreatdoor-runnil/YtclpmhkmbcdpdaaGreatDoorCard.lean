/-
  virgatelaw18.RunNil answers true for every fuel, and its argument reads afterwards as before: the tied card. Condition: the listed package-level variables start as the text of the program lays them (the tie of the card).
-/
import Derived.Test.YtclpmhkmbcdpdaaGreatDoorRow
import Derived.Test.YtclpmhkmbcdpdaaGreatDoorTieA
import Derived.Test.YtclpmhkmbcdpdaaGreatDoorTieB
import Derived.Test.YtclpmhkmbcdpdaaGreatDoorCards
set_option linter.all false
namespace Go.Proofs.YtclpmhkmbcdpdaaGreatDoor
open Go
set_option maxRecDepth 100000
theorem tied : Tryz.prog.laidByTextLater Rows.runNilRow.laid [.data, .data, .data, .data, .listed, .sentinel, .sentinel] true :=
  Program.laidByTextLater_by_one 400 8 1000 t1 t2 t3 t4 t5 t6 t7
theorem row_tie : Rows.runNilRow.laidByTextAt .later Tryz.pinned [.data, .data, .data, .data, .listed, .sentinel, .sentinel] true :=
  OpenClaim.laidByTextAt_later rfl rfl tied t8
theorem lk : Tryz.prog.looks [] = true := by kernel_rfl
theorem goes3 : Tryz.prog.goes 3 = false := by
  unfold Program.goes
  rw [clo, unf3]
  kernel_rfl
theorem named_ : Tryz.prog.funcNamed "virgate/virgatelaw18.RunNil" = some 3 := by kernel_rfl
theorem goes : Rows.runNilRow.goesBy Tryz.pinned.checked.prog = false := by
  show Tryz.prog.goesAt .entering "virgate/virgatelaw18.RunNil" = false
  unfold Program.goesAt Program.goesFrom
  rw [named_, Option.any_some, goes3]
  rfl
theorem runNil_card : Rows.RunNilCardSaid :=
  Claim7.holds_tied_plain_at .later [] [.data, .data, .data, .data, .listed, .sentinel, .sentinel] true (true, "99d6a339cbf8915d5df7655618a9a87444c7374e4a6f99a7394db9a8293ed622") true
    runNil_holds (fun _ h => by cases h) (by kernel_rfl) (fun _ h => by cases h) row_tie rfl ⟨rfl, rfl⟩ (by kernel_rfl) rfl
    (fun f fn hf hfn => by
      obtain rfl : f = 3 := Option.some.inj ((show Tryz.prog.funcNamed "virgate/virgatelaw18.RunNil" = some 3 by kernel_rfl).symm.trans hf) |>.symm
      obtain rfl : fn = Tryz.f3 := (Option.some.inj (Tryz.func3.symm.trans hfn)).symm
      exact ⟨lk.symm, fun j t ht => by
        rw [Tryz.params3] at ht
        have hm : t ∈ [3] := by simpa using Array.mem_of_getElem? ht
        have hall : ([3].all fun u => !Tryz.prog.wantsStandIn u) = true := by kernel_rfl
        exact (show Tryz.prog.wantsStandIn t = false by simpa using List.all_eq_true.1 hall t hm)⟩)
    goes.symm
#print axioms runNil_card
end Go.Proofs.YtclpmhkmbcdpdaaGreatDoor

