/- A part of OpReads's proof; no condition. -/
import Derived.Test.YtepaofffbkfodaaGreatDoorM21
import Derived.Test.YtepaofffbkfodaaGreatDoorCards
import Derived.Test.YtepaofffbkfodaaGreatDoorTie
set_option linter.all false
set_option maxHeartbeats 8000000
set_option maxRecDepth 100000
namespace Go.Proofs.YtepaofffbkfodaaGreatDoor
open Go.Proofs.Tryz
open Go.ChangeShapes Go.WideShapes Go.ChangeAt Go.RowKit
def D3:Tryz.pinned.checked.prog.funcNamed Rows.opReadsRow.func=some 3:=by kernel_rfl
set_option maxHeartbeats 100000000 in
theorem LW:joinedFacts Tryz.pinned.checked.prog 3 f3 Rows.opReadsSpec Rows.opReadsRow=true:=by
 unfold joinedFacts;repeat'(with_reducible refine Bool.and_eq_true_iff.2 ⟨?_,?_⟩)
 all_goals as_aux_lemma=>kernel_rfl
def Pb(law:sx)(os:Os)(started:os.Started)(H:Type)(enc:TypeId×an->H):ReturnsInHanded Rows.opReadsRow.assume Tryz.pinned.checked os 3 .any (Rows.opReadsRow.pre enc Tryz.pinned.checked.prog f3 (OpenSpec.ofChange Rows.opReadsSpec)) (Rows.opReadsSpec.post enc Tryz.pinned.checked.prog f3 Rows.opReadsRow.apart Rows.opReadsRow.fresh Rows.opReadsRow.handsOn Rows.opReadsRow.again):=
 LV law os started H enc
end Go.Proofs.YtepaofffbkfodaaGreatDoor
