/-
  A part of the proof that virgatetop.ModeLoop answers true for every text and every fuel: the tie's closed facts. No condition.
-/
import Derived.Test.YtlndamldkcangaaGreatDoorRows
import Derived.LaidByTextLater
import Derived.LaidOnce
import Derived.SevenTiedAt
import Derived.KernelRfl
set_option linter.all false
namespace Go.Proofs.YtlndamldkcangaaGreatDoor
open Go
set_option maxRecDepth 100000
theorem t1 : Tryz.prog.worded (varsWordLater true) = true := by kernel_rfl
theorem t2 : Tryz.prog.worded (varsWordLater !true) = false := by kernel_rfl
theorem t3 : Tryz.prog.worded rootWordLater = true := by kernel_rfl
theorem t4 : Rows.modeLoopRow.laid.map (fun x => Tryz.prog.kindOfLater x.1) = ([.data, .listed, .sentinel, .sentinel, .data, .data, .data] : List LaidKind).map some := by kernel_rfl
theorem t5 : (Tryz.prog.funcNamed "gosem.cut.vars").isSome = true := by kernel_rfl
theorem t6 : varsNamedLaterB Tryz.prog (varsId Tryz.prog) Rows.modeLoopRow.laid = true := by kernel_rfl
theorem t8 : Tryz.pinned.checked.prog.headLifts.contains "ownunsafe" = false := by kernel_rfl
end Go.Proofs.YtlndamldkcangaaGreatDoor

