/- A part of OpReads's proof; no condition. -/
import Derived.Test.YtepaofffbkfodaaGreatDoorM01
set_option linter.all false
set_option maxHeartbeats 8000000
set_option maxRecDepth 100000
namespace Go.Proofs.YtepaofffbkfodaaGreatDoor
open Tryz
variable{k:Nat}{id:Int}
namespace Mk
open Go.RowKit
def rZ:(Tryz.prog.info? 3).map (λi=>(i.zero,i.size,i.bytes))=some (some (xI 0),1,8):=by kernel_rfl
end Mk
namespace Mk
def Im(xs:List Int):Prop:=xs.Pairwise (·< ·)
inductive CH(roots:List Int)(R:Int->List Int):Int->Prop
 |root(x:Int):x∈roots->CH roots R x
 |step(x y:Int):CH roots R x->y∈R x->CH roots R y
section
variable {roots:List Int}{R:Int->List Int}{G B:List Int}
end
def dS(p:List Int×List Int)(ids:List Int):List Int×List Int:=ids.foldl (λp x=>if x∈p.1 then p else(p.1++[x],p.2++[x])) p
def AJ {p:List Int×List Int}{ids:List Int}{x:Int}(hx:ids[k]? =some x):dS p (ids.take (k+1))=if x∈(dS p (ids.take k)).1 then dS p (ids.take k)else((dS p (ids.take k)).1++[x],(dS p (ids.take k)).2++[x]):=by
 unfold dS;rw[Qbb,hx,List.foldl_append];rfl
theorem pf:∀(ids S wk:List Int),∃new,dS (S,wk) ids=(S++new,wk++new)/\(∀x∈new,x∈ids/\x∉S)/\∀x∈ids,x∈S++new
 |[],S,wk=>⟨[],by simp[dS],λx h=>(by cases h),λx h=>by cases h⟩
 |a::ids,S,wk=>by
  by_cases ha:a∈S
  .obtain⟨new,h1,h2,h3⟩:=pf ids S wk;refine⟨new,?_,λx hx=>⟨List.mem_cons_of_mem _ (h2 x hx).1,(h2 x hx).2⟩,λx hx=> ?_⟩
   .rw[<-h1];unfold dS;rw[List.foldl_cons];simp[ha]
   .rcases Qdf.1 hx with rfl|hx
    .exact List.mem_append_left _ ha
    .exact h3 x hx
  .obtain⟨new,h1,h2,h3⟩:=pf ids (S++[a]) (wk++[a]);refine⟨a::new,?_,λx hx=> ?_,λx hx=> ?_⟩
   .have e:dS (S,wk) (a::ids)=dS (S++[a],wk++[a]) ids:=by unfold dS;rw[List.foldl_cons];simp[ha]
    rw[e,h1];simp
   .rcases Qdf.1 hx with rfl|hx
    .exact⟨List.mem_cons_self,ha⟩
    .exact⟨List.mem_cons_of_mem _ (h2 x hx).1,λh=>(h2 x hx).2 (List.mem_append_left _ h)⟩
   .rcases Qdf.1 hx with rfl|hx
    .simp
    .have:=h3 x hx;simp only[Qch,Qdf,List.not_mem_nil,or_false]at this⊢;rcases this with(h|h)|h
     .exact .inl h
     .exact .inr (.inl h)
     .exact .inr (.inr h)
structure nU(roots:List Int)(R:Int->List Int)(S wk:List Int):Prop where
 sub:∀x∈wk,x∈S
 reached:∀x∈S,CH roots R x
 all:∀x∈roots,x∈S
 closed:∀x∈S,x∈wk\/∀y∈R x,y∈S
theorem nU.start(roots:List Int)(R:Int->List Int):nU roots R (dS ([],[]) roots).1 (dS ([],[]) roots).2:=by
 obtain⟨new,h1,h2,h3⟩:=pf roots [] [];rw[h1];simp only[List.nil_append]at h3⊢;exact⟨λx h=>h,λx h=> .root x (h2 x h).1,h3,λx h=> .inl h⟩
section
variable {roots:List Int}{R:Int->List Int}{S wk:List Int}
theorem nU.step(h:nU roots R S (wk++[id])):nU roots R (dS (S,wk) (R id)).1 (dS (S,wk) (R id)).2:=by
 obtain⟨new,h1,h2,h3⟩:=pf (R id) S wk;rw[h1];have hid:id∈S:=h.sub id (by simp);refine⟨λx hx=> ?_,λx hx=> ?_,λx hx=>List.mem_append_left _ (h.all x hx),λx hx=> ?_⟩
 .rcases Qch.1 hx with hx|hx
  .exact List.mem_append_left _ (h.sub x (List.mem_append_left _ hx))
  .exact List.mem_append_right _ hx
 .rcases Qch.1 hx with hx|hx
  .exact h.reached x hx
  .exact .step id x (h.reached id hid) (h2 x hx).1
 .rcases Qch.1 hx with hx|hx
  .by_cases e:x=id
   .subst e;exact .inr h3
   .rcases h.closed x hx with hc|hc
    .rcases Qch.1 hc with hc|hc
     .exact .inl (List.mem_append_left _ hc)
     .simp at hc;exact absurd hc e
    .exact .inr λy hy=>List.mem_append_left _ (hc y hy)
  .exact .inl (List.mem_append_right _ hx)
theorem nU.done(h:nU roots R S []):∀x,x∈S↔CH roots R x:=by
 refineλx=>⟨h.reached x,λhx=> ?_⟩;induction hx with
 |root x hx=>exact h.all x hx
 |step x y _ hy ih=>exact((h.closed x ih).resolve_left (by simp)) y hy
def pg(n:Nat)(S wk:List Int):Nat:=2*(n-S.length)+wk.length
def Ep {n:Nat}{S' KS:List Int}(he:dS (S,wk) (R id)=(S',KS))(hS:S'.length<=n):pg n S' KS<pg n S (wk++[id]):=by
 obtain⟨new,h1,_,_⟩:=pf (R id) S wk;rw[h1]at he;cases he;unfold pg;simp only[Qda,Qcc,Qcd]at hS⊢;omega
end
end Mk
namespace Mk
open Go.RowKit
open Go.ChangeMaps (setBlock heap_setBlock_same heap_setBlock_other)
def AX(p:Int×Nat):MapEntry:=⟨xI p.1,xB true,p.2⟩
def AY(w:aj)(b:Nat)(es:List (Int×Nat))(clk:Nat):Prop:=
 bR w b (.map (es.map AX).toArray clk)/\(es.map (·.1)).Nodup/\(es.map (·.2)).Nodup/\∀p∈es,p.2<clk
def jf(w:aj)(b:Nat)(S:List Int):Prop:=∃es clk,AY w b es clk/\es.map (·.1)=S
theorem vi(x:Int):∀(es:List (Int×Nat))(i:Nat),Instr.findNow (.int .i64) (xI x) (es.map AX) i=some (if x∈es.map (·.1)then some (i+(es.map (·.1)).idxOf x,xB true)else none)
 |[],i=>by simp[Instr.findNow]
 |p::r,i=>by
  by_cases h:x=p.1
  .subst h;simp[Instr.findNow,AX,Instr.sameNow]
  .have h':(x==p.1)=false:=by simpa using h
   have h2:(p.1==x)=false:=by simpa usingλe=>h e.symm
   have e:Instr.findNow (.int .i64) (xI x) ((p::r).map AX) i=Instr.findNow (.int .i64) (xI x) (r.map AX) (i+1):=by
    simp[Instr.findNow,AX,Instr.sameNow,h']
   rw[e,vi x r (i+1)];simp only[List.map_cons,Qdf,h,false_or,List.idxOf_cons,h2,cond_false];split<;>simp<;>omega
section
variable {w w':aj}{b:Nat}{S:List Int}{es:List (Int×Nat)}{clk:Nat}
theorem AY.lt(h:AY w b es clk):b<w.heap.size:=(Qaa.1 h.1).1
theorem jf.lt(h:jf w b S):b<w.heap.size:=by obtain⟨es,clk,h,_⟩:=h;exact h.lt
theorem jf.nodup(h:jf w b S):S.Nodup:=by obtain⟨es,clk,h,rfl⟩:=h;exact h.2.1
theorem AY.same(h:AY w b es clk)(hk:w'.heap[b]? =w.heap[b]?):AY w' b es clk:=⟨hk.trans h.1,h.2⟩
theorem jf.same(h:jf w b S)(hk:w'.heap[b]? =w.heap[b]?):jf w' b S:=by obtain⟨es,clk,h,e⟩:=h;exact⟨es,clk,h.same hk,e⟩
def run_findKey(x:Int)(es:List (Int×Nat))(w:aj):(Instr.findKey 3 (xI x) (es.map AX)).run prog w= .ok (if x∈es.map (·.1)then some ((es.map (·.1)).idxOf x,xB true)else none) w:=by
 simp only[Instr.findKey,Sem.run_bind,run_underlying underlying3,Result.andThen_ok,vi x es 0,Nat.zero_add];rfl
def run_checkKey(e:Bool)(x:Int)(w:aj):(Instr.checkKey e 10000 3 (xI x)).run prog w= .ok () w:=by
 show(Instr.checkKey e (9999+1) 3 (xI x)).run prog w= .ok () w;rw[Instr.checkKey];simp only[Sem.run_bind,run_underlying underlying3,Result.andThen_ok];rfl
def Mx(w:aj):(zeroValue 4).run prog w= .ok (xB false) w:=by kernel_rfl
theorem jf.lookup(h:jf w b S)(x:Int):(Instr.lookup 96 (.map (some b)) (xI x) false).run prog w= .ok (xB (decide (x∈S))) w:=by
 obtain⟨es,clk,h,rfl⟩:=h;simp only[Instr.lookup,Sem.run_bind,run_underlying underlying96,Result.andThen_ok,MapKept.run_getObj_map h.1,Sem.run_pure,run_checkKey,run_findKey];by_cases hx:x∈es.map (·.1)
 .simp[hx]
 .simp[hx,Mx]
theorem jf.store(h:jf w b S)(x:Int)(hx:x∉S):∃w',(Instr.mapUpdate 96 (.map (some b)) (xI x) (xB true)).run prog w= .ok () w'/\jf w' b (S++[x])/\ai (λi=>i=b) w w':=by
 obtain⟨es,clk,h,rfl⟩:=h;refine⟨setBlock w b (.map ((es++[(x,clk)]).map AX).toArray (clk+1)),?_,⟨es++[(x,clk)],clk+1,⟨heap_setBlock_same h.1 _,?_,?_,?_⟩,by simp⟩,⟨rfl,rfl,rfl,by simp[setBlock],λi _ hi=>heap_setBlock_other h.1 _ hi⟩⟩
 .simp only[Instr.mapUpdate,Sem.run_bind,run_underlying underlying96,Result.andThen_ok,MapKept.run_getObj_map h.1,run_checkKey,run_findKey,hx,if_false,MapKept.run_setObj_map _ h.1];simp[AX];rfl
 .rw[List.map_append,List.nodup_append];refine⟨h.2.1,by simp,?_⟩;intro a ha c hc;simp at hc;subst hc;rintro rfl;exact hx ha
 .rw[List.map_append,List.nodup_append];refine⟨h.2.2.1,by simp,?_⟩;intro a ha c hc;simp at hc;subst hc;obtain⟨p,hp,rfl⟩:=List.mem_map.1 ha;have:=h.2.2.2 p hp;omega
 .intro p hp;rcases Qch.1 hp with hp|hp
  .have:=h.2.2.2 p hp;omega
  .simp at hp;subst hp;simp
end
end Mk
end Go.Proofs.YtepaofffbkfodaaGreatDoor
