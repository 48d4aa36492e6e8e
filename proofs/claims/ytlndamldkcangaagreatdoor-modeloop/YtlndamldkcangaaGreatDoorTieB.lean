/-
  A part of the proof that virgatetop.ModeLoop answers true for every text and every fuel: the tie's run. No condition.
-/
import Derived.Test.YtlndamldkcangaaGreatDoorRows
import Derived.LaidByTextLater
import Derived.LaidOnce
import Derived.SevenTiedAt
import Derived.KernelRfl
set_option linter.all false
namespace Go.Proofs.YtlndamldkcangaaGreatDoor
open Go
set_option maxRecDepth 100000
theorem t7 : ∀ os tape, doorLeaves Tryz.prog 400 8 1000 Rows.modeLoopRow.laid os tape = some (Rows.modeLoopRow.laid.filter fun x => x.2.handleName?.isNone, (funcsListed Rows.modeLoopRow.laid).map (·.2.funcsOut)) := fun _ _ => by kernel_rfl
end Go.Proofs.YtlndamldkcangaaGreatDoor

