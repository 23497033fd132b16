/- The facts of the row; no condition beyond each theorem's own. -/
import Derived.Test.YtlkjnefenialbaaGreatDoorM26
import Derived.Test.YtlkjnefenialbaaGreatDoorCards
import Derived.Test.YtlkjnefenialbaaGreatDoorTie
set_option linter.unusedVariables false
set_option linter.unusedSimpArgs false
set_option maxHeartbeats 8000000
set_option maxRecDepth 100000
namespace Go.Proofs.YtlkjnefenialbaaGreatDoor
open Go.ChangeShapes Go.WideShapes Go.ChangeAt Go.RowKit
theorem J9:Tryz.pinned.checked.prog.funcNamed Rows.markReachesRow.func=some 3:=by kernel_rfl
theorem G4:joinedFacts Tryz.pinned.checked.prog 3 Tryz.f3 Rows.markReachesSpec Rows.markReachesRow=true:=by kernel_rfl
theorem Ka(law:qb)(os:Os)(started:os.Started)(H:Type)(enc:TypeId×Value→H):ReturnsInHanded Rows.markReachesRow.assume Tryz.pinned.checked os 3 .any (Rows.markReachesRow.pre enc Tryz.pinned.checked.prog Tryz.f3 (OpenSpec.ofChange Rows.markReachesSpec)) (Rows.markReachesSpec.post enc Tryz.pinned.checked.prog Tryz.f3 Rows.markReachesRow.apart Rows.markReachesRow.fresh Rows.markReachesRow.handsOn Rows.markReachesRow.again):=
 G1 law os started H enc
theorem Kb:Tryz.f3.isInstance Tryz.pinned.checked.prog Rows.markReachesRow.origin Rows.markReachesRow.targs:=of_decide_eq_true (by kernel_rfl)
theorem Kc:Tryz.f3.isWrapper Tryz.pinned.checked.prog Rows.markReachesRow.wrapper Rows.markReachesRow.mainSum:=by unfold Func.isWrapper;first|(rw[if_pos (by decide+kernel)];kernel_rfl)|(rw[if_neg (by decide+kernel)];exact⟨rfl,rfl⟩)
theorem Nd(law:qb):Rows.MarkReachesSaid:=
 OpenClaim.holds_of_wide 3 Tryz.f3 rfl rfl rfl rfl rfl rfl rfl ⟨rfl,rfl,rfl,rfl,rfl⟩ rfl rfl rfl rfl rfl J9 Tryz.func3 G4 Kb Kc (fun os started H enc _=>Ka law os started H enc)
theorem Nf(law:qb):Rows.MarkReachesCardSaid:=
 Claim7.holds_tied_plain_at .later [] [.data, .data, .data, .data, .sentinel, .sentinel, .pinned] true (true,"35c3dd14c024e1e312fc6f3b9a8a0d3ca04c59e8ae6419af4f3c7fd634aa29e5") true
  (Nd law) (fun _ h=>by cases h) (by kernel_rfl) (fun _ h=>by cases h) markReaches_row_tie rfl ⟨rfl,rfl⟩ (by kernel_rfl) rfl
  (fun f fn hf N1=>by
    obtain rfl:f=3:=Option.some.inj ((show Tryz.prog.funcNamed "moraine/morainelaw19.MarkReaches"=some 3 by kernel_rfl).symm.trans hf)|>.symm
    obtain rfl:fn=Tryz.f3:=(Option.some.inj (Tryz.func3.symm.trans N1)).symm
    exact⟨by kernel_rfl,fun j t ht=>by
     rw[Tryz.params3]at ht
     have hm:t∈[26,27]:=by simpa using Array.mem_of_getElem? ht
     have hall:([26,27].all fun u=> !Tryz.prog.wantsStandIn u)=true:=by kernel_rfl
     exact(show Tryz.prog.wantsStandIn t=false by simpa using List.all_eq_true.1 hall t hm)⟩)
  (by kernel_rfl)
end Go.Proofs.YtlkjnefenialbaaGreatDoor
