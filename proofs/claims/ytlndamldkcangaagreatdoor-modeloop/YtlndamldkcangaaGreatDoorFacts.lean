/-
  A part of the proof that virgatetop.ModeLoop answers true for every text and every fuel: closed facts of the program. No condition.
-/
import Derived.Test.YtlndamldkcangaaGreatDoorRows
import Derived.JoinedOf
import Derived.KernelRfl
import Derived.Test.YtlndamldkcangaaGreatDoorEvE
import Derived.Test.YtlndamldkcangaaGreatDoorReach
set_option linter.all false
namespace Go.Proofs.YtlndamldkcangaaGreatDoor
open Go Go.Ev
set_option maxRecDepth 100000
theorem lo1 : (List.range 200).all (rowFine Tryz.prog) = true := by kernel_rfl
theorem lo2 : (List.range' 200 200).all (rowFine Tryz.prog) = true := by kernel_rfl
theorem lo3 : (List.range' 400 200).all (rowFine Tryz.prog) = true := by kernel_rfl
theorem lo4 : (List.range' 600 29).all (rowFine Tryz.prog) = true := by kernel_rfl
theorem tsz : Tryz.prog.types.size = 629 := by kernel_rfl
theorem log : (Tryz.prog.globals.all fun g => decide (g.type < Tryz.prog.types.size)) = true := by kernel_rfl
theorem lof : (Tryz.prog.funcs.all fun f => f.params.all fun t => decide (t < Tryz.prog.types.size)) = true := by kernel_rfl
theorem laidOut : laidOutB Tryz.prog = true := by
  unfold laidOutB
  rw [log, lof, tsz, all_split (n := 629) 200 lo1 (all_split' (b := 200) (n := 429) 200 (by decide) lo2 (all_split' (b := 400) (n := 229) 200 (by decide) lo3 lo4))]
  rfl
theorem mapsR : mapsRowed Tryz.prog = true := by kernel_rfl
theorem heardS : Tryz.prog.stopsHeard = true := by kernel_rfl
theorem mayE : Tryz.prog.mayEnter = true := by kernel_rfl
end Go.Proofs.YtlndamldkcangaaGreatDoor

namespace Go.Proofs.YtlndamldkcangaaGreatDoor
open Go Go.Ev
set_option maxRecDepth 100000
theorem closed3 : joinedFacts Tryz.pinned.checked.prog 3 Tryz.f3 Rows.modeLoopSpec Rows.modeLoopRow = true := by
  show joinedFacts Tryz.prog 3 Tryz.f3 Rows.modeLoopSpec Rows.modeLoopRow = true
  unfold joinedFacts
  rw [laidOut, mapsR, heardS, mayE, inPlace3, unf3, rec3, named3]
  kernel_rfl
end Go.Proofs.YtlndamldkcangaaGreatDoor

