/- A part of OpReads's proof; no condition. -/
import Derived.Test.YtepaofffbkfodaaGreatDoorM22
set_option linter.all false
set_option maxHeartbeats 8000000
set_option maxRecDepth 100000
namespace Go.Proofs.YtepaofffbkfodaaGreatDoor
open Go.Proofs.Tryz
open Go.ChangeShapes Go.WideShapes Go.ChangeAt Go.RowKit
def LX {P:Program}(h:P.funcs.any Func.goes=false)(c:OpenClaim)(hs:c.start= .entering):false=c.goesBy P:=by
 have h1:∀f:FuncId,P.goes f=false:=λf=>by
  unfold Program.goes;rw[h,Bool.and_false,Bool.or_false,List.any_eq_false];intro g _ hg;cases hf:P.funcs[g]? with
  |none=>rw[hf]at hg;cases hg
  |some fn=>
   rw[hf]at hg;have hm:=Array.mem_of_getElem? hf;have h2:=Array.any_eq_false.1 h;obtain⟨i,hi,he⟩:=Array.mem_iff_getElem.1 hm;exact h2 i hi (by rw[he];exact hg)
 unfold OpenClaim.goesBy Program.goesAt Program.goesFrom;rw[hs];cases hn:P.funcNamed c.func with
 |none=>rfl
 |some f=>show false=(P.goes f||false);rw[h1 f];rfl
def LY:Tryz.pinned.checked.prog.funcs.any Func.goes=false:=by kernel_rfl
def Pc:false=Rows.opReadsRow.goesBy Tryz.pinned.checked.prog:=LX LY _ rfl
def Sy:Rows.opReadsRow.wfByText (OpenSpec.ofChange Rows.opReadsSpec)=true:=by kernel_rfl
def Pd:Tryz.pinned.checked.prog.mainIs=some (true,"d042ad8d7af2f95741a463d19c417cc7d63ac89787594cfc72913f8865344865".toList):=by kernel_rfl
def LZ:true=Tryz.pinned.checked.prog.looks []:=by kernel_rfl
def L0:([26,27].all λu=> !Tryz.prog.wantsStandIn u)=true:=by kernel_rfl
def Pe:Tryz.f3.isInstance Tryz.pinned.checked.prog Rows.opReadsRow.origin Rows.opReadsRow.targs:=of_decide_eq_true (by kernel_rfl)
def Pf:Tryz.f3.isWrapper Tryz.pinned.checked.prog Rows.opReadsRow.wrapper Rows.opReadsRow.mainSum:=by unfold Func.isWrapper;first|(rw[if_pos (by decide+kernel)];kernel_rfl)|(rw[if_neg (by decide+kernel)];exact⟨rfl,rfl⟩)
def Sz(law:sx):Rows.OpReadsSaid:=
 OpenClaim.holds_of_wide 3 f3 rfl rfl rfl rfl rfl rfl rfl ⟨rfl,rfl,rfl,rfl,rfl⟩ rfl rfl rfl rfl rfl D3 func3 LW Pe Pf (λos started H enc _=>Pb law os started H enc)
def SA(law:sx):Rows.OpReadsCardSaid:=
 Claim7.holds_tied_plain_at .later [] [.data, .data, .data, .data, .sentinel, .sentinel, .pinned] true (true,"d042ad8d7af2f95741a463d19c417cc7d63ac89787594cfc72913f8865344865") true
  (Sz law) (λ_ h=>by cases h) Sy (λ_ h=>by cases h) opReads_row_tie rfl ⟨rfl,rfl⟩ Pd rfl
  (λf fn hf WG=>by
    obtain rfl:f=3:=(Option.some.inj (D3.symm.trans hf)).symm;obtain rfl:fn=f3:=(Option.some.inj (Tryz.func3.symm.trans WG)).symm;exact⟨LZ,λj t ht=>by
     rw[params3]at ht;have hm:t∈[26,27]:=by simpa using Array.mem_of_getElem? ht
     exact(show Tryz.prog.wantsStandIn t=false by simpa using List.all_eq_true.1 L0 t hm)⟩)
  Pc
end Go.Proofs.YtepaofffbkfodaaGreatDoor
