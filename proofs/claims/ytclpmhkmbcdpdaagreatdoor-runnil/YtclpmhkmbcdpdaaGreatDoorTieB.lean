/-
  A part of the proof that virgatelaw18.RunNil answers true for every fuel: the tie's run. No condition.
-/
import Derived.Test.YtclpmhkmbcdpdaaGreatDoorRows
import Derived.LaidByTextLater
import Derived.LaidOnce
import Derived.SevenTiedAt
import Derived.KernelRfl
set_option linter.all false
namespace Go.Proofs.YtclpmhkmbcdpdaaGreatDoor
open Go
set_option maxRecDepth 100000
theorem t7 : ∀ os tape, doorLeaves Tryz.prog 400 8 1000 Rows.runNilRow.laid os tape = some (Rows.runNilRow.laid.filter fun x => x.2.handleName?.isNone, (funcsListed Rows.runNilRow.laid).map (·.2.funcsOut)) := fun _ _ => by kernel_rfl
end Go.Proofs.YtclpmhkmbcdpdaaGreatDoor

