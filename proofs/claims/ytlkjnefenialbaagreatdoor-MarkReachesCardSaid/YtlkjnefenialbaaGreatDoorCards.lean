/-
  DERIVED. GIVEN WITH THE SEED: THE CARDS: each row of YtlkjnefenialbaaGreatDoorRows.lean that lists a variable, with what it lists TIED to the program's text (the seventh form; the later family's looks); each row that meets fmt, with fmt's text TOLD by the authors' own Lean function (tested against real Go, not proved from fmt's source: count such statements apart). THE CARD IS WHAT COUNTS. Prove the row's statement (the work); the ties are given (YtlkjnefenialbaaGreatDoorTie.lean); close each card by the builder's one call (the guide's Derived/Test/ToyasCard.lean, 'card_holds'). Laid BY PROGRAM, IN A SANDBOX (cutbox-door.mjs). By AI agents, Wed Nov 11 2026. No macro, syntax, notation, axiom, sorry.
-/
import Derived.Test.YtlkjnefenialbaaGreatDoorRows
import GoSem.ClaimSeven
namespace Go.Proofs.YtlkjnefenialbaaGreatDoor
namespace Rows

/-- THE TIED CARD OF 'morainelaw19.MarkReaches'. -/
def markReachesCard : Claim7 := { stood := { row := markReachesRow, standIns := [], harness := (true, "35c3dd14c024e1e312fc6f3b9a8a0d3ca04c59e8ae6419af4f3c7fd634aa29e5"), looks := true }, kinds := [], alts := [], laidByText := true, laidKinds := [.data, .data, .data, .data, .sentinel, .sentinel, .pinned], laidTests := true, laidLooks := .later }
def MarkReachesCardSaid : Prop := Claim7.holds Tryz.pinned (.plain (OpenSpec.ofChange markReachesSpec)) markReachesCard

/-- THE SECOND FORM's CARD OF 'morainelaw19.MarkReaches'. -/
def markReachesUptoCard : Claim7 := { stood := { row := markReachesUptoRow, standIns := [], harness := (true, "35c3dd14c024e1e312fc6f3b9a8a0d3ca04c59e8ae6419af4f3c7fd634aa29e5"), looks := true }, kinds := [], alts := [], laidByText := true, laidKinds := [.data, .data, .data, .data, .sentinel, .sentinel, .pinned], laidTests := true, laidLooks := .later }
def MarkReachesUptoCardSaid : Prop := Claim7.holds Tryz.pinned (.plain (OpenSpec.upto markReachesSpec)) markReachesUptoCard
end Rows
end Go.Proofs.YtlkjnefenialbaaGreatDoor
