/- The witness of the row; no condition beyond each theorem's own. -/
import Derived.Test.YtlkjnefenialbaaGreatDoorM19
import Derived.Test.YtlkjnefenialbaaGreatDoorM25
import Derived.ProofKit
import Derived.LaidMore
import Derived.OpenShut
import Derived.Stop.Joined
import Derived.HandedShaped
set_option linter.unusedVariables false
set_option linter.unusedSimpArgs false
set_option maxHeartbeats 8000000
set_option maxRecDepth 100000
namespace Go.Proofs.YtlkjnefenialbaaGreatDoor
open Go.ChangeShapes Go.WideShapes Go.ChangeAt Go.RowKit
theorem own:ownKnob Tryz.prog.godebug=none:=by kernel_rfl
theorem laidOut:laidOutB Tryz.prog=true:=by kernel_rfl
noncomputable def A7(os:Os):World:=
 {World.doorLaid Tryz.prog 4000 os with heap:=(World.doorLaid Tryz.prog 4000 os).heap.modify 0 fun o=>match o with
  | .cells _ t fr=> .cells (Lib.firstTab.map fun z=>Value.int .u8 z).toArray t fr
  |o=>o}
theorem J6(os:Os)(args:Array Value):laidMetH Tryz.prog j5 ((A7 os).forCall (fun _ _=>0) ⟨#[],args,[]⟩).memory:=
 laidMetH_of_parts3 (fuel:=8) (laidMet_of_run' 8 (by kernel_rfl) (by kernel_rfl)) (by kernel_rfl) (by kernel_rfl)
abbrev J7:Array Value:= #[.agg #[.slice none 0 0, .slice none 0 0, .slice none 0 0], .slice none 0 0]
abbrev J8 {H:Type}(enc:TypeId×Value→H):World→Array Value→Prop:=fun w args=>(Rows.markReachesSpec.pre enc Tryz.prog Tryz.f3 [] false w args∧laidMetH Tryz.prog j5 w)∧sizedMet enc Tryz.prog Tryz.f3 (OpenSpec.ofChange Rows.markReachesSpec) false w args
theorem A8(os:Os){H:Type}(enc:TypeId×Value→H):∃(w:World)(tape:Tape)(i:Input),w.os=os∧(w.forCall tape i).Shaped Tryz.checked.prog∧i.vars=[]∧Input.okWide Tryz.checked.prog (w.forCall tape i) .any w.heap.size 3 i∧
 J8 enc (w.forCall tape i).memory i.args∧({}:Assume).holds Tryz.checked.prog (lone (Frame.enter Tryz.checked.prog 3 i.args .normal) [] (w.forCall tape i)):=
 ChangeSpec.witness_shaped (enc:=enc) (C:=Tryz.checked) (os:=os) (s:=Rows.markReachesSpec) (fn:=Tryz.f3) (X:=fun w _=>laidMetH Tryz.prog j5 w) false (A7 os) J7 8 rfl (World.shaped_of_RefB (by kernel_rfl) (by kernel_rfl)) (by kernel_rfl) (by kernel_rfl) (by kernel_rfl) (J6 os _)
def qb:Prop:=∀(W:World)(a b c tv:Value)(ls:List fL)(os:List iE)(rs:List iL)(ts:List Int),Gd W→ae (fun _=>False) W a ls→ae (fun _=>False) W b os→ae (fun _=>False) W c rs→ae (fun _=>False) W tv ts→(∀t∈ts,I6 t)→
 Calls Tryz.prog 3 #[.agg #[a,b,c],tv] W fun e w'=>e= .returned (.bool true)∧Below W.heap.size W w'
theorem G1(law:qb)(os:Os)(started:os.Started)(H:Type)(enc:TypeId×Value→H):
 ReturnsInHanded {} Tryz.checked os 3 .any (J8 enc) (Rows.markReachesSpec.post enc Tryz.prog Tryz.f3 false true false false):=by
 refine returnsInHanded_of_calls own started (by kernel_rfl) (A8 os enc) ?_
 intro w tape i _ mh _ ng Zn Q1
 obtain⟨_,_,_,fn',Zo,_,_,_,_,Pm⟩:=ng
 have e:fn'=Tryz.f3:=Option.some.inj (Zo.symm.trans Tryz.func3)
 subst e
 obtain⟨⟨⟨ds,gs,before,hw,hc⟩,hx⟩,hz⟩:=Zn
 have hW:=DataW.Whole.of_heap (w':=w.forCall tape i) (by rfl) hw
 have hL:laidMetH Tryz.prog j5 (w.forCall tape i):=hx.of_heap (by rfl)
 have hG:Gd (w.forCall tape i):=Ti hL mh
 suffices hh:Calls Tryz.prog 3 i.args (w.forCall tape i) fun e W'=>∃v,e= .returned v∧Rows.markReachesSpec.post enc Tryz.prog Tryz.f3 false true false false (w.forCall tape i) i.args v W' by
  refine hh.mono fun e W'⟨v,he,hp⟩=> ?_
  subst he
  exact ChangeSpec.post_blind hp
 generalize w.forCall tape i=W at*
 generalize i.args=args at*
 clear hw hx hL hc hz Q1
 have Q2:∀(j:Nat)t v,Tryz.f3.params[j]? =some t→args[j]? =some v→Value.okWide Tryz.prog W .any w.heap.size t v:=Pm
 have gX:=hW
 obtain⟨p,q,hA0,hV,rfl,hfz,IU⟩:=hW
 have hA:DataW.TrodAll enc Tryz.prog W 0 (fun _=>true) true Tryz.f3.params.toList args.toList ds p:=hA0
 rw[Tryz.params3]at hA Q2
 obtain⟨v0,v1,d0,d1,p0,p1,e1,rfl,rfl,h0,h1⟩:=trodAll_two hA
 subst e1
 obtain⟨rfl,rfl⟩:=trodVars_none hV
 clear hA0 Pm
 simp only[List.append_nil]at gX
 have aT:∀x∈p0++p1,x.block<W.heap.size:=fun x hx=>gX.lt x hx
 obtain⟨cs,rfl,bE⟩:=okWide_struct Tryz.underlying26 (Q2 0 26 v0 rfl rfl)
 obtain⟨a1,Nc,Zp,rfl⟩:=okWide_slice Tryz.underlying27 (Q2 1 27 v1 rfl rfl)
 rw[show Tryz.prog.cellsOf 26=3 by kernel_rfl]at bE
 obtain⟨a,b,c,rfl⟩:∃a b c,cs= #[a,b,c]:=by
  obtain⟨l⟩:=cs
  obtain⟨a,b,c,rfl⟩:=cells3 (show l.length=3 from bE)
  exact⟨a,b,c,rfl⟩
 obtain⟨fu0,hf0⟩:=h0
 obtain⟨fu1,pj⟩:=h1
 obtain⟨ls,os',rs,s0,s1,s2⟩:=JS (enc:=enc) (W:=W) (a:=a) (b:=b) (c:=c) ⟨fu0,_,by simpa [Value.cells]using hf0⟩
 obtain⟨ts,st,ht⟩:=Fw (enc:=enc) (W:=W) (v:= .slice a1 Nc Zp) ⟨fu1,_,by simpa [Value.cells]using pj⟩
 refine(law W a b c _ ls os' rs ts hG s0 s1 s2 st ht).mono fun e W'⟨he,hb⟩=> ?_
 subst he
 refine⟨_,rfl,_,_,_,[],p0++p1,[],gX,trodAll_mk1 (shut_bool Tryz.underlying4 _),?_,rfl,hb.frame _,fun h=>by cases h⟩
 exact trodAll_mk2 (Below.trod laidOut (by kernel_rfl) (of_decide_eq_true (by kernel_rfl)) ⟨fu0,hf0⟩ hb (fun x h=>aT x (List.mem_append.2 (.inl h)))) (Below.trod laidOut (by kernel_rfl) (of_decide_eq_true (by kernel_rfl)) ⟨fu1,pj⟩ hb (fun x h=>aT x (List.mem_append.2 (.inr h))))
end Go.Proofs.YtlkjnefenialbaaGreatDoor
