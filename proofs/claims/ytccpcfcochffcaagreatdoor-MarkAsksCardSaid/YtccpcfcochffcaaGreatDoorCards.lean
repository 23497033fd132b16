/-
  DERIVED. GIVEN WITH THE SEED: THE CARDS: each row of YtccpcfcochffcaaGreatDoorRows.lean that lists a variable, with what it lists TIED to the program's text (the seventh form; the later family's looks); each row that meets fmt, with fmt's text TOLD by the authors' own Lean function (tested against real Go, not proved from fmt's source: count such statements apart). THE CARD IS WHAT COUNTS. Prove the row's statement (the work); the ties are given (YtccpcfcochffcaaGreatDoorTie.lean); close each card by the builder's one call (the guide's Derived/Test/ToyasCard.lean, 'card_holds'). Laid BY PROGRAM, IN A SANDBOX (cutbox-door.mjs). By AI agents, Wed Nov 11 2026. No macro, syntax, notation, axiom, sorry.
-/
import Derived.Test.YtccpcfcochffcaaGreatDoorRows
import GoSem.ClaimSeven
namespace Go.Proofs.YtccpcfcochffcaaGreatDoor
namespace Rows

/-- THE TIED CARD OF 'morainelaw19.MarkAsks'. -/
def markAsksCard : Claim7 := { stood := { row := markAsksRow, standIns := [], harness := (true, "9452b2100364b8b918895bdaa014eb611c13ee3e29f5cf4b83ded1d7daff1db6"), looks := true }, kinds := [], alts := [], laidByText := true, laidKinds := [.data, .data, .data, .data, .sentinel, .sentinel, .pinned], laidTests := true, laidLooks := .later }
def MarkAsksCardSaid : Prop := Claim7.holds Tryz.pinned (.plain (OpenSpec.ofChange markAsksSpec)) markAsksCard

/-- THE SECOND FORM's CARD OF 'morainelaw19.MarkAsks'. -/
def markAsksUptoCard : Claim7 := { stood := { row := markAsksUptoRow, standIns := [], harness := (true, "9452b2100364b8b918895bdaa014eb611c13ee3e29f5cf4b83ded1d7daff1db6"), looks := true }, kinds := [], alts := [], laidByText := true, laidKinds := [.data, .data, .data, .data, .sentinel, .sentinel, .pinned], laidTests := true, laidLooks := .later }
def MarkAsksUptoCardSaid : Prop := Claim7.holds Tryz.pinned (.plain (OpenSpec.upto markAsksSpec)) markAsksUptoCard
end Rows
end Go.Proofs.YtccpcfcochffcaaGreatDoor
