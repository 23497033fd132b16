/- A part of MarkAsks's proof; no condition. -/
import Derived.Test.YtccpcfcochffcaaGreatDoorM27
import Derived.Test.YtccpcfcochffcaaGreatDoorM28
import Derived.Stop.Joined
import Derived.HandedShaped
set_option linter.all false
set_option maxHeartbeats 8000000
set_option maxRecDepth 100000
namespace Go.Proofs.YtccpcfcochffcaaGreatDoor
open Go.Proofs.Tryz
open Go.ChangeShapes Go.WideShapes Go.ChangeAt Go.RowKit
def own:ownKnob Tryz.prog.godebug=none:=by kernel_rfl
def laidOut:laidOutB prog=true:=by kernel_rfl
noncomputable def Fo(os:Os):aj:=
 {World.doorLaid prog 4000 os with heap:=(World.doorLaid prog 4000 os).heap.modify 0 λo=>match o with
  | .cells _ t fr=> .cells (Lib.firstTab.map λz=>Value.int .u8 z).toArray t fr
  |o=>o}
def PJ(os:Os)(args:Array an):laidMetH prog me ((Fo os).forCall (λ_ _=>0) ⟨#[],args,[]⟩).memory:=
 laidMetH_of_parts3 (fuel:=8) (laidMet_of_run' 8 (by kernel_rfl) (by kernel_rfl)) (by kernel_rfl) (by kernel_rfl)
abbrev PK:Array an:= #[.agg #[xL none 0 0,xL none 0 0,xL none 0 0], .agg #[xB false,xI 0,xL none 0 0,xI 0,xI 0,xI 0,xI 0,xS ⟨#[]⟩,xL none 0 0]]
abbrev PL {H:Type}(enc:TypeId×an->H):aj->Array an->Prop:=λw args=>(Rows.markAsksSpec.pre enc prog f3 [] false w args/\laidMetH prog me w)/\sizedMet enc prog f3 (OpenSpec.ofChange Rows.markAsksSpec) false w args
def Fp(os:Os){H:Type}(enc:TypeId×an->H):∃(w:aj)(tape:Tape)(i:Input),w.os=os/\(w.forCall tape i).Shaped Tryz.checked.prog/\i.vars=[]/\Input.okWide Tryz.checked.prog (w.forCall tape i) .any w.heap.size 3 i/\
 PL enc (w.forCall tape i).memory i.args/\({}:Assume).holds Tryz.checked.prog (lone (Frame.enter Tryz.checked.prog 3 i.args .normal) [] (w.forCall tape i)):=
 ChangeSpec.witness_shaped (enc:=enc) (C:=checked) (os:=os) (s:=Rows.markAsksSpec) (fn:=f3) (X:=λw _=>laidMetH prog me w) false (Fo os) PK 8 rfl (World.shaped_of_RefB (by kernel_rfl) (by kernel_rfl)) (by kernel_rfl) (by kernel_rfl) (by kernel_rfl) (PJ os _)
def tw:Prop:=∀(W:aj)(a b c qv:an)(ls:List gZ)(os:List jE)(rs:List jL)(q:UK),Gd W->ab xF W a ls->ab xF W b os->ab xF W c rs->CV W qv q->
 xC 3 #[.agg #[a,b,c],qv] W (cN (xB true) W)
def MA(law:tw)(os:Os)(started:os.Started)(H:Type)(enc:TypeId×an->H):
 ReturnsInHanded {} checked os 3 .any (PL enc) (Rows.markAsksSpec.post enc prog f3 false true false false):=by
 refine returnsInHanded_of_calls own started (by kernel_rfl) (Fp os enc) ?_;intro w tape i _ oO _ oS qej qek;obtain⟨_,_,_,fn',qel,_,_,_,_,qbf⟩:=oS;have e:fn'=f3:=Option.some.inj (qel.symm.trans func3);subst e;obtain⟨⟨⟨ds,gs,before,hw,hc⟩,hx⟩,hz⟩:=qej;have hW:=DataW.Whole.of_heap (w':=w.forCall tape i) (by rfl) hw;have hL:laidMetH prog me (w.forCall tape i):=hx.of_heap (by rfl);have hG:Gd (w.forCall tape i):=ZR hL oO;suffices hh:xC 3 i.args (w.forCall tape i) λe W'=>∃v,e=xR v/\Rows.markAsksSpec.post enc prog f3 false true false false (w.forCall tape i) i.args v W' by
  refine hh.mono λe W'⟨v,he,hp⟩=> ?_;subst he;exact ChangeSpec.post_blind hp
 generalize w.forCall tape i=W at*;generalize i.args=args at*;have XD:∀(j:Nat)t v,Tryz.f3.params[j]? =some t->args[j]? =some v->Value.okWide prog W .any w.heap.size t v:=qbf;have iL:=hW;obtain⟨p,q,hA0,hV,rfl,hfz,R8⟩:=hW;have hA:DataW.TrodAll enc prog W 0 (λ_=>true) true Tryz.f3.params.toList args.toList ds p:=hA0;rw[params3]at hA XD;obtain⟨v0,v1,d0,d1,p0,p1,e1,rfl,rfl,h0,h1⟩:=trodAll_two hA;subst e1;obtain⟨rfl,rfl⟩:=trodVars_none hV;simp only[List.append_nil]at iL;have aX:∀x∈p0++p1,x.block<W.heap.size:=λx hx=>iL.lt x hx;obtain⟨cs,rfl,bD⟩:=okWide_struct underlying26 (XD 0 26 v0 rfl rfl);obtain⟨ds,rfl,hds⟩:=okWide_struct underlying32 (XD 1 32 v1 rfl rfl);rw[show Tryz.prog.cellsOf 26=3 by kernel_rfl]at bD;rw[show Tryz.prog.cellsOf 32=9 by kernel_rfl]at hds;obtain⟨a,b,c,rfl⟩:∃a b c,cs= #[a,b,c]:=by
  obtain⟨l⟩:=cs;obtain⟨a,b,c,rfl⟩:=cells3 (show l.length=3 from bD);exact⟨a,b,c,rfl⟩
 obtain⟨l⟩:=ds;have hds:l.length=9:=hds;obtain⟨fu0,hf0⟩:=h0;obtain⟨fu1,wU⟩:=h1;obtain⟨ls,os',rs,s0,s1,s2⟩:=OV (enc:=enc) (W:=W) (a:=a) (b:=b) (c:=c) ⟨fu0,_,by simpa [Value.cells]using hf0⟩;obtain⟨x,hq⟩:=PI (enc:=enc) (W:=W) hds ⟨fu1,_,by simpa [Value.cells]using wU⟩;refine(law W a b c _ ls os' rs x hG s0 s1 s2 hq).mono λe W'⟨he,hb⟩=> ?_;subst he;refine⟨_,rfl,_,_,_,[],p0++p1,[],iL,trodAll_mk1 (shut_bool underlying4 _),?_,rfl,hb.frame _,λh=>by cases h⟩;exact trodAll_mk2 (Below.trod laidOut (by kernel_rfl) (of_decide_eq_true (by kernel_rfl)) ⟨fu0,hf0⟩ hb (λx h=>aX x (Qch.2 (.inl h)))) (Below.trod laidOut (by kernel_rfl) (of_decide_eq_true (by kernel_rfl)) ⟨fu1,wU⟩ hb (λx h=>aX x (Qch.2 (.inr h))))
end Go.Proofs.YtccpcfcochffcaaGreatDoor
