/- A part of OpReads's proof; no condition. -/
import Derived.Test.YtepaofffbkfodaaGreatDoorM16
import Derived.Test.YtepaofffbkfodaaGreatDoorM20
import Derived.Stop.Joined
import Derived.HandedShaped
set_option linter.all false
set_option maxHeartbeats 8000000
set_option maxRecDepth 100000
namespace Go.Proofs.YtepaofffbkfodaaGreatDoor
open Go.Proofs.Tryz
open Go.ChangeShapes Go.WideShapes Go.ChangeAt Go.RowKit
def own:ownKnob Tryz.prog.godebug=none:=by kernel_rfl
def laidOut:laidOutB prog=true:=by kernel_rfl
noncomputable def D1(os:Os):aj:=
 {World.doorLaid prog 4000 os with heap:=(World.doorLaid prog 4000 os).heap.modify 0 λo=>match o with
  | .cells _ t fr=> .cells (Lib.firstTab.map λz=>Value.int .u8 z).toArray t fr
  |o=>o}
def O8(os:Os)(args:Array an):laidMetH prog lE ((D1 os).forCall (λ_ _=>0) ⟨#[],args,[]⟩).memory:=
 laidMetH_of_parts3 (fuel:=8) (laidMet_of_run' 8 (by kernel_rfl) (by kernel_rfl)) (by kernel_rfl) (by kernel_rfl)
abbrev O9:Array an:= #[.agg #[xL none 0 0,xL none 0 0,xL none 0 0],xL none 0 0]
abbrev Pa {H:Type}(enc:TypeId×an->H):aj->Array an->Prop:=λw args=>(Rows.opReadsSpec.pre enc prog f3 [] false w args/\laidMetH prog lE w)/\sizedMet enc prog f3 (OpenSpec.ofChange Rows.opReadsSpec) false w args
def D2(os:Os){H:Type}(enc:TypeId×an->H):∃(w:aj)(tape:Tape)(i:Input),w.os=os/\(w.forCall tape i).Shaped Tryz.checked.prog/\i.vars=[]/\Input.okWide Tryz.checked.prog (w.forCall tape i) .any w.heap.size 3 i/\
 Pa enc (w.forCall tape i).memory i.args/\({}:Assume).holds Tryz.checked.prog (lone (Frame.enter Tryz.checked.prog 3 i.args .normal) [] (w.forCall tape i)):=
 ChangeSpec.witness_shaped (enc:=enc) (C:=checked) (os:=os) (s:=Rows.opReadsSpec) (fn:=f3) (X:=λw _=>laidMetH prog lE w) false (D1 os) O9 8 rfl (World.shaped_of_RefB (by kernel_rfl) (by kernel_rfl)) (by kernel_rfl) (by kernel_rfl) (by kernel_rfl) (O8 os _)
def sx:Prop:=∀(W:aj)(a b c tv:an)(ls:List gW)(os:List jF)(rs:List jQ)(ts:List Int),Gd W->ab xF W a ls->ab xF W b os->ab xF W c rs->ab xF W tv ts->(∀t∈ts,I6 t)->
 xC 3 #[.agg #[a,b,c],tv] W (cr (xB true) W)
def LV(law:sx)(os:Os)(started:os.Started)(H:Type)(enc:TypeId×an->H):
 ReturnsInHanded {} checked os 3 .any (Pa enc) (Rows.opReadsSpec.post enc prog f3 false true false false):=by
 refine returnsInHanded_of_calls own started (by kernel_rfl) (D2 os enc) ?_;intro w tape i _ nX _ zd qdz qd0;obtain⟨_,_,_,fn',qd1,_,_,_,_,qaw⟩:=zd;have e:fn'=f3:=Option.some.inj (qd1.symm.trans func3);subst e;obtain⟨⟨⟨ds,gs,before,hw,hc⟩,hx⟩,hz⟩:=qdz;have hW:=DataW.Whole.of_heap (w':=w.forCall tape i) (by rfl) hw;have hL:laidMetH prog lE (w.forCall tape i):=hx.of_heap (by rfl);have hG:Gd (w.forCall tape i):=Zr hL nX;suffices hh:xC 3 i.args (w.forCall tape i) λe W'=>∃v,e=xR v/\Rows.opReadsSpec.post enc prog f3 false true false false (w.forCall tape i) i.args v W' by
  refine hh.mono λe W'⟨v,he,hp⟩=> ?_;subst he;exact ChangeSpec.post_blind hp
 generalize w.forCall tape i=W at*;generalize i.args=args at*;have WY:∀(j:Nat)t v,Tryz.f3.params[j]? =some t->args[j]? =some v->Value.okWide prog W .any w.heap.size t v:=qaw;have gU:=hW;obtain⟨p,q,hA0,hV,rfl,hfz,Tq⟩:=hW;have hA:DataW.TrodAll enc prog W 0 (λ_=>true) true Tryz.f3.params.toList args.toList ds p:=hA0;rw[params3]at hA WY;obtain⟨v0,v1,d0,d1,p0,p1,e1,rfl,rfl,h0,h1⟩:=trodAll_two hA;subst e1;obtain⟨rfl,rfl⟩:=trodVars_none hV;simp only[List.append_nil]at gU;have bu:∀x∈p0++p1,x.block<W.heap.size:=λx hx=>gU.lt x hx;obtain⟨cs,rfl,bJ⟩:=okWide_struct underlying26 (WY 0 26 v0 rfl rfl);obtain⟨a1,Vx,qd2,rfl⟩:=okWide_slice underlying27 (WY 1 27 v1 rfl rfl);rw[show Tryz.prog.cellsOf 26=3 by kernel_rfl]at bJ;obtain⟨a,b,c,rfl⟩:∃a b c,cs= #[a,b,c]:=by
  obtain⟨l⟩:=cs;obtain⟨a,b,c,rfl⟩:=cells3 (show l.length=3 from bJ);exact⟨a,b,c,rfl⟩
 obtain⟨fu0,hf0⟩:=h0;obtain⟨fu1,tI⟩:=h1;obtain⟨ls,os',rs,s0,s1,s2⟩:=OU (enc:=enc) (W:=W) (a:=a) (b:=b) (c:=c) ⟨fu0,_,by simpa [Value.cells]using hf0⟩;obtain⟨ts,st,ht⟩:=J1 (enc:=enc) (W:=W) (v:=xL a1 Vx qd2) ⟨fu1,_,by simpa [Value.cells]using tI⟩;refine(law W a b c _ ls os' rs ts hG s0 s1 s2 st ht).mono λe W'⟨he,hb⟩=> ?_;subst he;refine⟨_,rfl,_,_,_,[],p0++p1,[],gU,trodAll_mk1 (shut_bool underlying4 _),?_,rfl,hb.frame _,λh=>by cases h⟩;exact trodAll_mk2 (Below.trod laidOut (by kernel_rfl) (of_decide_eq_true (by kernel_rfl)) ⟨fu0,hf0⟩ hb (λx h=>bu x (Qch.2 (.inl h)))) (Below.trod laidOut (by kernel_rfl) (of_decide_eq_true (by kernel_rfl)) ⟨fu1,tI⟩ hb (λx h=>bu x (Qch.2 (.inr h))))
end Go.Proofs.YtepaofffbkfodaaGreatDoor
