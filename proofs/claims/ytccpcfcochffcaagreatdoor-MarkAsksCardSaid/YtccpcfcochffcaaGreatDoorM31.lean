/- A part of MarkAsks's proof; no condition. -/
import Derived.Test.YtccpcfcochffcaaGreatDoorM30
set_option linter.all false
set_option maxHeartbeats 8000000
set_option maxRecDepth 100000
namespace Go.Proofs.YtccpcfcochffcaaGreatDoor
open Go.Proofs.Tryz
open Go.ChangeShapes Go.WideShapes Go.ChangeAt Go.RowKit
def PO:Tryz.f3.isInstance Tryz.pinned.checked.prog Rows.markAsksRow.origin Rows.markAsksRow.targs:=of_decide_eq_true (by kernel_rfl)
def PQ:Tryz.f3.isWrapper Tryz.pinned.checked.prog Rows.markAsksRow.wrapper Rows.markAsksRow.mainSum:=by unfold Func.isWrapper;first|(rw[if_pos (by decide+kernel)];kernel_rfl)|(rw[if_neg (by decide+kernel)];exact⟨rfl,rfl⟩)
def Th(law:tw):Rows.MarkAsksSaid:=
 OpenClaim.holds_of_wide 3 f3 rfl rfl rfl rfl rfl rfl rfl ⟨rfl,rfl,rfl,rfl,rfl⟩ rfl rfl rfl rfl rfl PM func3 MB PO PQ (λos started H enc _=>PN law os started H enc)
set_option maxHeartbeats 100000000 in
theorem Ti(law:tw):Rows.MarkAsksCardSaid:=
 Claim7.holds_tied_plain_at .later [] [.data, .data, .data, .data, .sentinel, .sentinel, .pinned] true (true,"9452b2100364b8b918895bdaa014eb611c13ee3e29f5cf4b83ded1d7daff1db6") true
  (Th law) (λ_ h=>by cases h) (by as_aux_lemma=>kernel_rfl) (λ_ h=>by cases h) markAsks_row_tie rfl ⟨rfl,rfl⟩ (by as_aux_lemma=>kernel_rfl) rfl
  (λf fn hf WV=>by
    obtain rfl:f=3:=Option.some.inj ((show Tryz.prog.funcNamed "moraine/morainelaw19.MarkAsks"=some 3 by as_aux_lemma=>kernel_rfl).symm.trans hf)|>.symm;obtain rfl:fn=f3:=(Option.some.inj (Tryz.func3.symm.trans WV)).symm;exact⟨by as_aux_lemma=>kernel_rfl,λj t ht=>by
     rw[params3]at ht;have hm:t∈[26,32]:=by simpa using Array.mem_of_getElem? ht
     have hall:([26,32].all λu=> !Tryz.prog.wantsStandIn u)=true:=by as_aux_lemma=>kernel_rfl
     exact(show Tryz.prog.wantsStandIn t=false by simpa using List.all_eq_true.1 hall t hm)⟩)
  (by as_aux_lemma=>kernel_rfl)
end Go.Proofs.YtccpcfcochffcaaGreatDoor
