/-
  A part of the proof that virgatelaw18.RunNil answers true for every fuel: closed facts of the program. No condition.
-/
import Derived.Test.YtclpmhkmbcdpdaaGreatDoorRows
import Derived.JoinedOf
import Derived.KernelRfl
import Derived.Test.YtclpmhkmbcdpdaaGreatDoorEvB
import Derived.Test.YtclpmhkmbcdpdaaGreatDoorReach
set_option linter.all false
namespace Go.Proofs.YtclpmhkmbcdpdaaGreatDoor
open Go Go.Ev
set_option maxRecDepth 100000
theorem lo1 : (List.range 200).all (rowFine Tryz.prog) = true := by kernel_rfl
theorem lo2 : (List.range' (0 + 200) 200).all (rowFine Tryz.prog) = true := by kernel_rfl
theorem lo3 : (List.range' (0 + 200 + 200) (631 - 200 - 200)).all (rowFine Tryz.prog) = true := by kernel_rfl
theorem tsz : Tryz.prog.types.size = 631 := by kernel_rfl
theorem lo4 : (Tryz.prog.globals.all fun g => decide (g.type < Tryz.prog.types.size)) = true := by kernel_rfl
theorem lo5 : (Tryz.prog.funcs.all fun f => f.params.all fun t => decide (t < Tryz.prog.types.size)) = true := by kernel_rfl
theorem laidOut : laidOutB Tryz.prog = true := by
  unfold laidOutB
  rw [lo4, lo5, tsz, all_split (n := 631) 200 lo1 (all_split' (b := 200) (n := 431) 200 (by decide) lo2 lo3)]
  rfl
theorem mapsR : mapsRowed Tryz.prog = true := by kernel_rfl
theorem heardS : Tryz.prog.stopsHeard = true := by kernel_rfl
theorem mayE : Tryz.prog.mayEnter = true := by kernel_rfl
end Go.Proofs.YtclpmhkmbcdpdaaGreatDoor

namespace Go.Proofs.YtclpmhkmbcdpdaaGreatDoor
open Go Go.Ev
set_option maxRecDepth 100000
theorem closed3 : joinedFacts Tryz.pinned.checked.prog 3 Tryz.f3 Rows.runNilSpec Rows.runNilRow = true := by
  show joinedFacts Tryz.prog 3 Tryz.f3 Rows.runNilSpec Rows.runNilRow = true
  unfold joinedFacts
  rw [laidOut, mapsR, heardS, mayE, inPlace3, unf3, rec3, named3]
  kernel_rfl
end Go.Proofs.YtclpmhkmbcdpdaaGreatDoor

