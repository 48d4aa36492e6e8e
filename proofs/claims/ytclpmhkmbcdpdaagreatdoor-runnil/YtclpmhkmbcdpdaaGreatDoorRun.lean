/-
  A part of the proof that virgatelaw18.RunNil answers true for every fuel: the evaluator's run of the law. No condition.
-/
import Derived.Test.YtclpmhkmbcdpdaaGreatDoorEnv
set_option linter.all false
set_option maxRecDepth 1000000
namespace Go.Proofs
open Go Go.Ev
theorem Tryz.run (fuel : Int) : isT ((lvl Tryz.env 100000).cl 3 [.int .i64 fuel] ⟨.e, 64⟩) = true := by kernel_rfl
end Go.Proofs

