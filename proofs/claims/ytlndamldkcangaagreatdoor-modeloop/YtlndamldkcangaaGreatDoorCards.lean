/-
  DERIVED. GIVEN WITH THE SEED: THE CARDS: each row of YtlndamldkcangaaGreatDoorRows.lean that lists a variable, with what it lists TIED to the program's text (the seventh form; the later family's looks); each row that meets fmt, with fmt's text TOLD by the authors' own Lean function (tested against real Go, not proved from fmt's source: count such statements apart). THE CARD IS WHAT COUNTS. Prove the row's statement (the work); the ties are given (YtlndamldkcangaaGreatDoorTie.lean); close each card by the builder's one call (the guide's Derived/Test/ToyasCard.lean, 'card_holds'). Laid BY PROGRAM, IN A SANDBOX (cutbox-door.mjs). By AI agents, Wed Nov 11 2026. No macro, syntax, notation, axiom, sorry.
-/
import Derived.Test.YtlndamldkcangaaGreatDoorRows
import GoSem.ClaimSeven
namespace Go.Proofs.YtlndamldkcangaaGreatDoor
namespace Rows

/-- THE TIED CARD OF 'virgatetop.ModeLoop'. -/
def modeLoopCard : Claim7 := { stood := { row := modeLoopRow, standIns := [], harness := (true, "f7865d3226124a49bc0b0b40dac58d65f74f39f75a459a647d9d2d511ccb0cc2"), looks := true }, kinds := [], alts := [], laidByText := true, laidKinds := [.data, .listed, .sentinel, .sentinel, .data, .data, .data], laidTests := true, laidLooks := .later }
def ModeLoopCardSaid : Prop := Claim7.holds Tryz.pinned (.plain (OpenSpec.ofChange modeLoopSpec)) modeLoopCard

/-- THE SECOND FORM's CARD OF 'virgatetop.ModeLoop'. -/
def modeLoopUptoCard : Claim7 := { stood := { row := modeLoopUptoRow, standIns := [], harness := (true, "f7865d3226124a49bc0b0b40dac58d65f74f39f75a459a647d9d2d511ccb0cc2"), looks := true }, kinds := [], alts := [], laidByText := true, laidKinds := [.data, .listed, .sentinel, .sentinel, .data, .data, .data], laidTests := true, laidLooks := .later }
def ModeLoopUptoCardSaid : Prop := Claim7.holds Tryz.pinned (.plain (OpenSpec.upto modeLoopSpec)) modeLoopUptoCard
end Rows
end Go.Proofs.YtlndamldkcangaaGreatDoor
