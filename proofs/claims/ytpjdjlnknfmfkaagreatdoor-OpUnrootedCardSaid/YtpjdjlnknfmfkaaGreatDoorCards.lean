/-
  DERIVED. GIVEN WITH THE SEED: THE CARDS: each row of YtpjdjlnknfmfkaaGreatDoorRows.lean that lists a variable, with what it lists TIED to the program's text (the seventh form; the later family's looks); each row that meets fmt, with fmt's text TOLD by the authors' own Lean function (tested against real Go, not proved from fmt's source: count such statements apart). THE CARD IS WHAT COUNTS. Prove the row's statement (the work); the ties are given (YtpjdjlnknfmfkaaGreatDoorTie.lean); close each card by the builder's one call (the guide's Derived/Test/ToyasCard.lean, 'card_holds'). Laid BY PROGRAM, IN A SANDBOX (cutbox-door.mjs). By AI agents, Wed Nov 11 2026. No macro, syntax, notation, axiom, sorry.
-/
import Derived.Test.YtpjdjlnknfmfkaaGreatDoorRows
import GoSem.ClaimSeven
namespace Go.Proofs.YtpjdjlnknfmfkaaGreatDoor
namespace Rows

/-- THE TIED CARD OF 'morainelaw17.OpUnrooted'. -/
def opUnrootedCard : Claim7 := { stood := { row := opUnrootedRow, standIns := [], harness := (true, "44b93d6d530a61118bb635377b7039f1239fefcf670aa73140c43efeb620b4af"), looks := true }, kinds := [], alts := [], laidByText := true, laidKinds := [.data, .data, .data, .data, .sentinel, .sentinel, .pinned], laidTests := true, laidLooks := .later }
def OpUnrootedCardSaid : Prop := Claim7.holds Tryz.pinned (.plain (OpenSpec.ofChange opUnrootedSpec)) opUnrootedCard

/-- THE SECOND FORM's CARD OF 'morainelaw17.OpUnrooted'. -/
def opUnrootedUptoCard : Claim7 := { stood := { row := opUnrootedUptoRow, standIns := [], harness := (true, "44b93d6d530a61118bb635377b7039f1239fefcf670aa73140c43efeb620b4af"), looks := true }, kinds := [], alts := [], laidByText := true, laidKinds := [.data, .data, .data, .data, .sentinel, .sentinel, .pinned], laidTests := true, laidLooks := .later }
def OpUnrootedUptoCardSaid : Prop := Claim7.holds Tryz.pinned (.plain (OpenSpec.upto opUnrootedSpec)) opUnrootedUptoCard
end Rows
end Go.Proofs.YtpjdjlnknfmfkaaGreatDoor
