/-
  DERIVED. GIVEN WITH THE SEED: THE CARDS: each row of YtepaofffbkfodaaGreatDoorRows.lean that lists a variable, with what it lists TIED to the program's text (the seventh form; the later family's looks); each row that meets fmt, with fmt's text TOLD by the authors' own Lean function (tested against real Go, not proved from fmt's source: count such statements apart). THE CARD IS WHAT COUNTS. Prove the row's statement (the work); the ties are given (YtepaofffbkfodaaGreatDoorTie.lean); close each card by the builder's one call (the guide's Derived/Test/ToyasCard.lean, 'card_holds'). Laid BY PROGRAM, IN A SANDBOX (cutbox-door.mjs). By AI agents, Wed Nov 11 2026. No macro, syntax, notation, axiom, sorry.
-/
import Derived.Test.YtepaofffbkfodaaGreatDoorRows
import GoSem.ClaimSeven
namespace Go.Proofs.YtepaofffbkfodaaGreatDoor
namespace Rows

/-- THE TIED CARD OF 'morainelaw17.OpReads'. -/
def opReadsCard : Claim7 := { stood := { row := opReadsRow, standIns := [], harness := (true, "d042ad8d7af2f95741a463d19c417cc7d63ac89787594cfc72913f8865344865"), looks := true }, kinds := [], alts := [], laidByText := true, laidKinds := [.data, .data, .data, .data, .sentinel, .sentinel, .pinned], laidTests := true, laidLooks := .later }
def OpReadsCardSaid : Prop := Claim7.holds Tryz.pinned (.plain (OpenSpec.ofChange opReadsSpec)) opReadsCard

/-- THE TIED CARD OF 'morainelaw17.OpNews'. -/
def opNewsCard : Claim7 := { stood := { row := opNewsRow, standIns := [], harness := (true, "d042ad8d7af2f95741a463d19c417cc7d63ac89787594cfc72913f8865344865"), looks := true }, kinds := [], alts := [], laidByText := true, laidKinds := [.data, .data, .data, .data, .sentinel, .sentinel, .pinned], laidTests := true, laidLooks := .later }
def OpNewsCardSaid : Prop := Claim7.holds Tryz.pinned (.plain (OpenSpec.ofChange opNewsSpec)) opNewsCard

/-- THE SECOND FORM's CARD OF 'morainelaw17.OpReads'. -/
def opReadsUptoCard : Claim7 := { stood := { row := opReadsUptoRow, standIns := [], harness := (true, "d042ad8d7af2f95741a463d19c417cc7d63ac89787594cfc72913f8865344865"), looks := true }, kinds := [], alts := [], laidByText := true, laidKinds := [.data, .data, .data, .data, .sentinel, .sentinel, .pinned], laidTests := true, laidLooks := .later }
def OpReadsUptoCardSaid : Prop := Claim7.holds Tryz.pinned (.plain (OpenSpec.upto opReadsSpec)) opReadsUptoCard

/-- THE SECOND FORM's CARD OF 'morainelaw17.OpNews'. -/
def opNewsUptoCard : Claim7 := { stood := { row := opNewsUptoRow, standIns := [], harness := (true, "d042ad8d7af2f95741a463d19c417cc7d63ac89787594cfc72913f8865344865"), looks := true }, kinds := [], alts := [], laidByText := true, laidKinds := [.data, .data, .data, .data, .sentinel, .sentinel, .pinned], laidTests := true, laidLooks := .later }
def OpNewsUptoCardSaid : Prop := Claim7.holds Tryz.pinned (.plain (OpenSpec.upto opNewsSpec)) opNewsUptoCard
end Rows
end Go.Proofs.YtepaofffbkfodaaGreatDoor
