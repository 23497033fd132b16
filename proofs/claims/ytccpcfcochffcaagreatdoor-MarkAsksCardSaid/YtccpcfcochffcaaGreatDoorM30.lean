/- A part of MarkAsks's proof; no condition. -/
import Derived.Test.YtccpcfcochffcaaGreatDoorM29
import Derived.Test.YtccpcfcochffcaaGreatDoorCards
import Derived.Test.YtccpcfcochffcaaGreatDoorTie
set_option linter.all false
set_option maxHeartbeats 8000000
set_option maxRecDepth 100000
namespace Go.Proofs.YtccpcfcochffcaaGreatDoor
open Go.Proofs.Tryz
open Go.ChangeShapes Go.WideShapes Go.ChangeAt Go.RowKit
def PM:Tryz.pinned.checked.prog.funcNamed Rows.markAsksRow.func=some 3:=by kernel_rfl
set_option maxHeartbeats 100000000 in
theorem MB:joinedFacts Tryz.pinned.checked.prog 3 f3 Rows.markAsksSpec Rows.markAsksRow=true:=by
 unfold joinedFacts;repeat'(with_reducible refine Bool.and_eq_true_iff.2 ⟨?_,?_⟩)
 all_goals as_aux_lemma=>kernel_rfl
def PN(law:tw)(os:Os)(started:os.Started)(H:Type)(enc:TypeId×an->H):ReturnsInHanded Rows.markAsksRow.assume Tryz.pinned.checked os 3 .any (Rows.markAsksRow.pre enc Tryz.pinned.checked.prog f3 (OpenSpec.ofChange Rows.markAsksSpec)) (Rows.markAsksSpec.post enc Tryz.pinned.checked.prog f3 Rows.markAsksRow.apart Rows.markAsksRow.fresh Rows.markAsksRow.handsOn Rows.markAsksRow.again):=
 MA law os started H enc
end Go.Proofs.YtccpcfcochffcaaGreatDoor
