/- Ranges over functions, by rounds; no condition beyond each theorem's own. -/
import Derived.Test.YtlkjnefenialbaaGreatDoorM01
import Derived.RangeFuncCalls
import Derived.RangeFuncLeaves
import Derived.RangeFuncRecord
import Derived.RangeFuncSeq
set_option linter.unusedVariables false
set_option linter.unusedSimpArgs false
set_option maxHeartbeats 8000000
set_option maxRecDepth 100000
namespace Go.Proofs.YtlkjnefenialbaaGreatDoor
open Go.RowKit
theorem ag.putObj {S:Nat→Prop}{w w':World}(h:ag S w w'){r:Nat}(hr:S r∨w.heap.size≤r)(o:Obj):ag S w (w'.putObj r o):=
 ⟨h.os,h.tape,h.output,by simpa using h.size,fun i hi hS=>(World.putObj_heap_other (by rintro rfl;rcases hr with hr|hr;exact hS hr;omega)).trans (h.block i hi hS)⟩
theorem ag.at_ {S:Nat→Prop}{w w':World}(h:ag S w w'){i:Nat}{o:Obj}(hi:w.heap[i]? =some o)(hS:¬S i):w'.heap[i]? =some o:=
 (h.block i (Array.getElem?_eq_some_iff.1 hi).1 hS).trans hi
def PR(w:World)(k:Nat):Nat→Prop:=fun i=>w.heap.size+2≤i∧i<w.heap.size+2+k
def Ml(w:World)(k:Nat):Nat→Prop:=fun i=>w.heap.size≤i∧i<w.heap.size+2+k
def Cu(C:Nat→Prop)(w:World)(k:Nat):Nat→Prop:=fun i=>C i∨w.heap.size+2+k≤i
def RW(C:Nat→Prop)(w:World)(k:Nat):Nat→Prop:=fun i=>C i∨i=w.heap.size+1∨w.heap.size+2+k≤i
def Ds {β:Type}(P:Program)(gf:Nat)(lb:Array Value)(w:World)(C:Nat→Prop)(k:Nat)(s0:β)(vq:β→Array Value→β→World→Prop)(End:β→Prop):Prop:=
 ∀(J:β→World→Prop)(Jx:World→Prop)(W:World),W.heap.size=w.heap.size+2→Below w.heap.size w W→
  (∀s A B,J s A→ag (PR w k) A B→J s B)→(∀A B,Jx A→ag (PR w k) A B→Jx B)→
  (∀s args s' A,J s A→vq s args s' A→YieldAt Fence.wide 0 P (w.heap.size+1) args A fun e B=>(e= .returned (.bool true)∧J s' B∧ag (RW C w k) A B)∨(e= .returned (.bool false)∧Jx B))→
  J s0 W→CallsIn Fence.wide 0 P gf (#[.func (.yield (w.heap.size+1)) #[] #[]]++lb) W fun e B=>(∃v,e= .returned v)∧((∃s,End s∧J s B)∨Jx B)
def PS {β:Type}(C:Nat→Prop)(w:World)(k:Nat)(I:β→World→Prop)(Ix:Code→World→Prop)(s:β)(W:World):Exit→Act→World→Prop
 | .normal,_,B=>ag (Cu C w k) W B∧I s B
 | .ret,_,B=>ag (Cu C w k) W B∧Ix .ret B
 | .exit id,_,B=>ag (Cu C w k) W B∧Ix (.exit id) B
 | .goto t,_,B=>ag (Cu C w k) W B∧Ix (.goto t) B
 | .panic _,_,_=>False
 | .outgrown,_,_=>False
def RX(w:World):Deferred:={target:= .collected w.heap.size,args:= #[]}
theorem re {β:Type}{P:Program}{g:Operand}{ps:Array Tmp}{assign body:Code}{Q:Exit→Act→World→Prop}{a:Act}{w:World}{gf:Nat}{lb:Array Value}
 (hg:a.eval g= .func (.func gf) #[] lb)(eg:∀args w,(callFunc gf args).run P w= .ok (.enter gf args) w)
 (C:Nat→Prop)(k:Nat)(s0:β)(vq:β→Array Value→β→World→Prop)(End:β→Prop)(LB:Ds P gf lb w C k s0 vq End)(ia:∀s args s' W,vq s args s' W→args.size=ps.size)(hC:∀i,C i→i<w.heap.size)
 (I:β→World→Prop)(Ix:Code→World→Prop)(hI:∀s A B,I s A→ag (Ml w k) A B→I s B)(LC:∀c A B,Ix c A→ag (Ml w k) A B→Ix c B)(h0:I s0 w)
 (hround:∀(l:Nat)(s:β)(args:Array Value)(s':β)(W:World),I s W→vq s args s' W→w.heap.size+2≤W.heap.size→
   assign.wpIn (Fence.wide.inRound l) 0 P (Exit.then (fun a1 W1=>ag (Cu C w k) W W1∧∀W2,ag (fun i=>i=w.heap.size+1) W1 W2→W2.heap.size=W1.heap.size→body.wpIn (Fence.wide.inRound l) 0 P (PS C w k I Ix s' W2) a1 W2) (fun _ _ _=>False))
    {tmps:=(ps.zip args).foldl (fun t(p,v)=>t.setIfInBounds p v) a.tmps,defers:=[]} W)
 (hdone:∀(s:β)(W:World),End s→I s W→W.heap[w.heap.size]? =some (.deferred (some []))→Q .normal {a with defers:=RX w::a.defers} W)
 (hstop:∀(c:Code)(W:World),Ix c W→W.heap[w.heap.size]? =some (.deferred (some []))→c.wpIn Fence.wide 0 P Q {a with defers:=RX w::a.defers} W):
 (Code.rangeFunc g ps assign body).wpIn Fence.wide 0 P Q a w:=by
 refine wpIn_rangeFunc ?_
 intro fn N1
 obtain⟨rec,lT⟩:∃rec:LoopState→Option Code→Loop,rec=fun st pe=>{state:=st,pending:=pe,fn,tmps:=a.tmps,params:=ps,assign,body,defers:=w.heap.size}:=⟨_,rfl⟩
 obtain⟨W1,ib⟩:∃W1,(w.alloc (.deferred (some []))).alloc (.loop (rec .ready none))=W1:=⟨_,rfl⟩
 have hB1:Bx w [.deferred (some []), .loop (rec .ready none)] W1:=by rw[←ib];exact Bx.eO w _ _
 have db:W1.heap.size=w.heap.size+2:=by rw[←ib];simp
 have YY:I s0 W1:=hI _ _ _ h0 (ag.aj hB1.1)
 refine⟨w.heap.size+1,[RX w],W1,{target:= .fn (.func gf) lb,args:= #[.func (.yield (w.heap.size+1)) #[] #[]]},W1,gf,#[.func (.yield (w.heap.size+1)) #[] #[]]++lb,W1,?_,?_,?_,?_,(fun h=>by cases h),?_⟩
 ·rw[←ib,lT];exact run_enterLoop_outer _ _ _ _ _
 ·simp only[resolve,hg]
  simp[go_sem]
 ·intro f' Uo;exact trivial
 ·simp[invoke,go_sem,eg]
 ·refine(LB (fun s W=>I s W∧W.heap[w.heap.size+1]? =some (.loop (rec .ready none))∧W.heap[w.heap.size]? =some (.deferred (some [])))
   (fun W=>∃c,Ix c W∧W.heap[w.heap.size+1]? =some (.loop (rec .done (some c)))∧W.heap[w.heap.size]? =some (.deferred (some [])))
   W1 db hB1.1 ?_ ?_ ?_ ⟨YY,hB1.bh rfl,hB1.bJ rfl⟩).mono ?_
  ·rintro s A B⟨h1,h2,h3⟩ho
   exact⟨hI _ _ _ h1 (ho.mono fun i hi=>⟨by have:=hi.1;omega,hi.2⟩),ho.at_ h2 (fun h=>by have:=h.1;omega),ho.at_ h3 (fun h=>by have:=h.1;omega)⟩
  ·rintro A B⟨c,h1,h2,h3⟩ho
   exact⟨c,LC _ _ _ h1 (ho.mono fun i hi=>⟨by have:=hi.1;omega,hi.2⟩),ho.at_ h2 (fun h=>by have:=h.1;omega),ho.at_ h3 (fun h=>by have:=h.1;omega)⟩
  ·rintro s args s' A⟨hi,hl,hk⟩hT
   have aT:w.heap.size+1<A.heap.size:=(Array.getElem?_eq_some_iff.1 hl).1
   have hy:=run_yield (P:=P) (args:=args) hl (by rw[lT];exact ia s args s' A hT)
   rw[lT]at hy
   refine⟨fn,_,assign,body,hy,roundIn_of_wpIn N1 (wpIn_mono (hround _ s args s' A hi hT (by omega)) ?_)⟩
   have Uq:¬Cu C w k (w.heap.size+1):=fun h=>by rcases h with h|h;(have:=hC _ h;omega);omega
   have Ur:¬Cu C w k w.heap.size:=fun h=>by rcases h with h|h;(have:=hC _ h;omega);omega
   have sub:∀i,Cu C w k i→RW C w k i:=fun i h=>h.imp_right .inr
   rintro e a1 A1 hp
   cases e with
   |normal=>
    obtain⟨ei,hb⟩:=hp
    have qt:=ei.at_ hl Uq
    have ni:=ei.at_ hk Ur
    have fK:ag (fun i=>i=w.heap.size+1) A1 (A1.putObj (w.heap.size+1) (.loop {rec .ready none with state:= .busy})):=(ag.refl (fun i=>i=w.heap.size+1) A1).putObj (.inl rfl) _
    refine⟨_,run_beginRound qt (by rw[lT]),?_⟩
    have sK:(A1.putObj (w.heap.size+1) (.loop {rec .ready none with state:= .busy})).heap[w.heap.size+1]? =some (.loop {rec .ready none with state:= .busy}):=World.putObj_heap_same (Array.getElem?_eq_some_iff.1 qt).1
    have vm:=fK.at_ ni (by show¬(w.heap.size=w.heap.size+1);omega)
    refine wpIn_mono (hb _ fK (by simp)) ?_
    have fin:∀(jump:Option Code)(A3:World),ag (Cu C w k) (A1.putObj (w.heap.size+1) (.loop {rec .ready none with state:= .busy})) A3→
     (Instr.endRound (w.heap.size+1) jump).run P A3= .ok (.bool jump.isNone) (A3.putObj (w.heap.size+1) (.loop (rec (if jump.isNone then .ready else .done) jump)))∧
     (A3.putObj (w.heap.size+1) (.loop (rec (if jump.isNone then .ready else .done) jump))).heap[w.heap.size+1]? =some (.loop (rec (if jump.isNone then .ready else .done) jump))∧
     (A3.putObj (w.heap.size+1) (.loop (rec (if jump.isNone then .ready else .done) jump))).heap[w.heap.size]? =some (.deferred (some []))∧
     ag (Ml w k) A3 (A3.putObj (w.heap.size+1) (.loop (rec (if jump.isNone then .ready else .done) jump)))∧
     ag (RW C w k) A (A3.putObj (w.heap.size+1) (.loop (rec (if jump.isNone then .ready else .done) jump))):=fun jump A3 pq=>by
     have Iu:=pq.at_ sK Uq
     have zF:=pq.at_ vm Ur
     have hr:=run_endRound (P:=P) jump Iu
     have h5:=((ei.mono sub).trans (fK.mono fun i hi=> .inr (.inl hi))).trans (pq.mono sub)
     rw[lT]at hr⊢
     refine⟨hr,World.putObj_heap_same (Array.getElem?_eq_some_iff.1 Iu).1,(World.putObj_heap_other (by omega)).trans zF,(ag.refl _ _).putObj (.inl ⟨by omega,by omega⟩) _,?_⟩
     exact h5.putObj (.inl (.inr (.inl rfl))) _
    rintro e a3 A3 vI
    cases e with
    |normal=>
     obtain⟨pq,zB⟩:=vI
     obtain⟨hr,wD,kS,EO,th⟩:=fin none A3 pq
     exact⟨_,_,hr, .inl ⟨rfl,⟨hI _ _ _ zB EO,wD,kS⟩,th⟩⟩
    |ret=>
     obtain⟨pq,zB⟩:=vI
     obtain⟨hr,wD,kS,EO,th⟩:=fin (some .ret) A3 pq
     exact⟨_,_,hr, .inr ⟨rfl, .ret,LC _ _ _ zB EO,wD,kS⟩⟩
    |exit id=>
     obtain⟨pq,zB⟩:=vI
     obtain⟨hr,wD,kS,EO,th⟩:=fin (some (.exit id)) A3 pq
     exact⟨_,_,hr, .inr ⟨rfl, .exit id,LC _ _ _ zB EO,wD,kS⟩⟩
    |goto t=>
     obtain⟨pq,zB⟩:=vI
     obtain⟨hr,wD,kS,EO,th⟩:=fin (some (.goto t)) A3 pq
     exact⟨_,_,hr, .inr ⟨rfl, .goto t,LC _ _ _ zB EO,wD,kS⟩⟩
    |panic ch=>exact vI.elim
    |outgrown=>exact vI.elim
   |ret=>exact hp.elim
   |exit id=>exact hp.elim
   |goto t=>exact hp.elim
   |panic ch=>exact hp.elim
   |outgrown=>exact hp.elim
  ·rintro e W2⟨⟨v,rfl⟩,(⟨s,hE,hi,hl,hk⟩|⟨c,hi,hl,hk⟩)⟩
   ·exact⟨none,_,by have:=run_endLoop (P:=P) hl (by rw[lT];simp);rw[lT]at this;exact this,hdone s _ hE (hI _ _ _ hi ((ag.refl _ _).putObj (.inl ⟨by omega,by omega⟩) _)) ((World.putObj_heap_other (by omega)).trans hk)⟩
   ·exact⟨some c,_,by have:=run_endLoop (P:=P) hl (by rw[lT];simp);rw[lT]at this;exact this,hstop c _ (LC _ _ _ hi ((ag.refl _ _).putObj (.inl ⟨by omega,by omega⟩) _)) ((World.putObj_heap_other (by omega)).trans hk)⟩
section
variable {P:Program}{α:Type} [az α]
theorem Dt {l n:Nat}{ops:Array Oper}{rest:List Oper}{o:Oper}{a:Act}{w:World}{Q:Exit→Act→World→Prop}(vE:o.guard=none)(hd:∀c,o.op≠ .defer c){v:Value}{w':World}(hr:(execOp a.eval o).run P w= .ok (.value v) w')
 (h:wpListIn (Fence.wide.inRound l) n P ops Q rest (a.put o.dst v) w'):wpListIn (Fence.wide.inRound l) n P ops Q (o::rest) a w:=by
 have hw:Region.wanted o (yielded ops a.tmps)=true:=by simp[Region.wanted,vE]
 simp only[wpListIn,hw,if_true]
 refine⟨fun f _=>trivial,?_⟩
 rw[Oper.semAt_eq _ _ _ hd,hr]
 exact h
theorem nT {l n:Nat}{ops:Array Oper}{rest:List Oper}{o:Oper}{a:Act}{w:World}{Q:Exit→Act→World→Prop}(vE:o.guard=none)(s x:Operand)(t:TypeId)
 (ho:o.op= .call {callee:= .builtin .append,args:= #[s,x],argTypes:= #[t,t]})
 (M:Nat→Prop)(base:Nat)(e:TypeId)(i:TypeInfo)(z:Value)(bytes:Nat)(ht:P.underlying t=some (.slice e))(hi:P.info? e=some i)(hz:i.zero=some z)
 (gu:i.size=az.size α)(xT:i.bytes=bytes)(xU:z.cells.size=az.size α)(cB:0<az.size α)
 (v:Value)(xs:List α)(hs:a.eval s=v)(bn:aK M base e w v xs)
 (F:Nat→Prop)(sv:Value)(cs:List Value)(y:α)(hx:a.eval x=sv)(hr:ba F w (az.size α) sv 1 cs)(hy:az.rep (bc v M) w cs y)
 (xV:xs.length+1≤maxLen)(ey:(xs.length+1)*bytes≤140737488355328)(ed:base≤w.heap.size)
 (h:∀a' c' w',aK M base e w' (.slice a' (xs.length+1) c') (xs++[y])→Ev (bc v M) w (bc (.slice a' (xs.length+1) c') M) w'→Below base w w'→wpListIn (Fence.wide.inRound l) n P ops Q rest (a.put o.dst (.slice a' (xs.length+1) c')) w'):wpListIn (Fence.wide.inRound l) n P ops Q (o::rest) a w:=by
 obtain⟨css,h1,h2,h3⟩:=bn
 obtain⟨v',w',mo,k1,k2,k3⟩:=fh (P:=P) w base t o.type e i z (az.size α) bytes ht hi hz gu xT xU cB v xs.length css.flatten h1 sv 1 cs hr (az.flat hy) xV ey ed
 obtain⟨a',c',rfl,_,_⟩:=dG k1
 refine Dt vE (fun c hc=>by rw[ho]at hc;cases hc) (v:= .slice a' (xs.length+1) c') (w':=w') ?_ (h a' c' w' (aK.snoc h2 h3 hy k1 k2 k3) (Ev.grown k2 k3) ((Below.refl _ w).grown k2 ed fun k hk=>(h1.lt k hk).1))
 unfold execOp
 simp only[ho,resolve,invoke,builtin,Sem.run_bind,Sem.run_pure,Result.andThen_ok,List.map_toArray,List.map_cons,List.map_nil,hs,hx,mo]
end
theorem aK.Aa {α:Type} [az α]{S:Nat→Prop}{base:Nat}{e:TypeId}{w w':World}{v:Value}{xs:List α}(h:aK (fun _=>False) base e w v xs)(ho:ag S w w')(hb:∀i,S i→i<base)(hS:∀{M M':Nat→Prop}{cs:List Value}{x:α},az.rep M w cs x→az.rep M' w' cs x):aK (fun _=>False) base e w' v xs:=by
 obtain⟨css,k1,k2,k3⟩:=h
 refine⟨css,⟨k1.1,?_⟩,k2,fun i cs x hc hx=>hS (k3 i cs x hc hx)⟩
 rcases k1.2 with h0|⟨g,cap,cur,e1,e2,e3,e4⟩
 ·exact .inl h0
 ·exact .inr ⟨g,cap,cur,e1,e2,ho.at_ e3 (fun h=>by have:=hb _ h;omega),e4⟩
section
variable {P:Program}
theorem AM {l n:Nat}{ops:Array Oper}{o:Oper}{a:Act}{w:World}{K:Act→World→Prop}{Q:Exit→Act→World→Prop}{E:Prop}(vE:o.guard=none)(hd:∀c,o.op≠ .defer c){v:Value}{w':World}(hr:(execOp a.eval o).run P w= .ok (.value v) w')(h:K (a.put o.dst v) w'):
 if Region.wanted o (yielded ops a.tmps)=true then Oper.wpIn (Fence.wide.inRound l) n P o a w K Q else E:=by
 have hw:Region.wanted o (yielded ops a.tmps)=true:=by simp[Region.wanted,vE]
 rw[if_pos hw]
 refine⟨fun f _=>trivial,?_⟩
 rw[Oper.semAt_eq _ _ _ hd,hr]
 exact h
variable {α:Type} [az α]
theorem gN {l n:Nat}{ops:Array Oper}{o:Oper}{a:Act}{w:World}{K:Act→World→Prop}{Q:Exit→Act→World→Prop}{E:Prop}(vE:o.guard=none)(s x:Operand)(t:TypeId)
 (ho:o.op= .call {callee:= .builtin .append,args:= #[s,x],argTypes:= #[t,t]})
 (M:Nat→Prop)(base:Nat)(e:TypeId)(i:TypeInfo)(z:Value)(bytes:Nat)(ht:P.underlying t=some (.slice e))(hi:P.info? e=some i)(hz:i.zero=some z)
 (gu:i.size=az.size α)(xT:i.bytes=bytes)(xU:z.cells.size=az.size α)(cB:0<az.size α)
 (v:Value)(xs:List α)(hs:a.eval s=v)(bn:aK M base e w v xs)
 (sv:Value)(ys:List α)(hx:a.eval x=sv)(hr:ae (bc v M) w sv ys)
 (xV:xs.length+ys.length≤maxLen)(ey:(xs.length+ys.length)*bytes≤140737488355328)(ed:base≤w.heap.size)
 (h:∀a' c' w',aK M base e w' (.slice a' (xs.length+ys.length) c') (xs++ys)→Ev (bc v M) w (bc (.slice a' (xs.length+ys.length) c') M) w'→Below base w w'→K (a.put o.dst (.slice a' (xs.length+ys.length) c')) w'):
 if Region.wanted o (yielded ops a.tmps)=true then Oper.wpIn (Fence.wide.inRound l) n P o a w K Q else E:=by
 obtain⟨css,h1,h2,h3⟩:=bn
 obtain⟨Ik,k1,k2,k3⟩:=hr
 have B6:∀u∈Ik.flatten,u.oneCell'=true:=fun u hu=>by
  obtain⟨cs,bE,hu⟩:=List.mem_flatten.1 hu
  obtain⟨i,hi⟩:=List.getElem?_of_mem bE
  have xY:i<ys.length:=by rw[←k2];exact(List.getElem?_eq_some_iff.1 hi).1
  exact az.flat (k3 i cs _ hi (List.getElem?_eq_getElem xY)) u hu
 obtain⟨v',w',mo,j1,j2,j3⟩:=fh (P:=P) w base t o.type e i z (az.size α) bytes ht hi hz gu xT xU cB v xs.length css.flatten h1 sv ys.length Ik.flatten k1 B6 xV ey ed
 obtain⟨a',c',rfl,_,_⟩:=dG j1
 refine AM vE (fun c hc=>by rw[ho]at hc;cases hc) (v:= .slice a' (xs.length+ys.length) c') (w':=w') ?_ (h a' c' w' (aK.app h2 h3 k2 k3 j1 j2 j3) (Ev.grown j2 j3) ((Below.refl _ w).grown j2 ed fun k hk=>(h1.lt k hk).1))
 unfold execOp
 simp only[ho,resolve,invoke,builtin,Sem.run_bind,Sem.run_pure,Result.andThen_ok,List.map_toArray,List.map_cons,List.map_nil,hs,hx,mo]
end
def Wg(S:Nat→Prop)(w:World):Nat→Prop:=fun i=>S i∨i=w.heap.size+1
def KR {β:Type}(P:Program)(gf:Nat)(lb:Array Value)(w:World)(S:Nat→Prop)(k:Nat)(s0:β)(vq:β→Array Value→β→World→Prop)(End:β→Prop):Prop:=
 ∀(J:β→World→Prop)(Jx:World→Prop)(W:World),W.heap.size=w.heap.size+2→Below w.heap.size w W→
  (∀s A B,J s A→ag (PR w k) A B→J s B)→(∀A B,Jx A→ag (PR w k) A B→Jx B)→
  (∀s args s' A,J s A→vq s args s' A→YieldAt Fence.wide 0 P (w.heap.size+1) args A fun e B=>(e= .returned (.bool true)∧J s' B∧ag (Wg S w) A B)∨(e= .returned (.bool false)∧Jx B))→
  J s0 W→CallsIn Fence.wide 0 P gf (#[.func (.yield (w.heap.size+1)) #[] #[]]++lb) W fun e B=>(∃v,e= .returned v)∧((∃s,End s∧J s B)∨Jx B)
def NA {β:Type}(S:Nat→Prop)(I:β→World→Prop)(Ix:Code→World→Prop)(s:β)(W:World):Exit→Act→World→Prop
 | .normal,_,B=>ag (S) W B∧I s B
 | .ret,_,B=>ag (S) W B∧Ix .ret B
 | .exit id,_,B=>ag (S) W B∧Ix (.exit id) B
 | .goto t,_,B=>ag (S) W B∧Ix (.goto t) B
 | .panic _,_,_=>False
 | .outgrown,_,_=>False
theorem oV {β:Type}{P:Program}{g:Operand}{ps:Array Tmp}{assign body:Code}{Q:Exit→Act→World→Prop}{a:Act}{w:World}{gf:Nat}{lb:Array Value}
 (hg:a.eval g= .func (.func gf) #[] lb)(eg:∀args w,(callFunc gf args).run P w= .ok (.enter gf args) w)
 (S:Nat→Prop)(k:Nat)(s0:β)(vq:β→Array Value→β→World→Prop)(End:β→Prop)(LB:KR P gf lb w S k s0 vq End)(ia:∀s args s' W,vq s args s' W→args.size=ps.size)(hS:∀i,S i→i<w.heap.size∨w.heap.size+2≤i)
 (I:β→World→Prop)(Ix:Code→World→Prop)(hI:∀s A B,I s A→ag (Ml w k) A B→I s B)(LC:∀c A B,Ix c A→ag (Ml w k) A B→Ix c B)(h0:I s0 w)
 (hround:∀(l:Nat)(s:β)(args:Array Value)(s':β)(W:World),I s W→vq s args s' W→w.heap.size+2≤W.heap.size→
   assign.wpIn (Fence.wide.inRound l) 0 P (Exit.then (fun a1 W1=>ag (S) W W1∧∀W2,ag (fun i=>i=w.heap.size+1) W1 W2→W2.heap.size=W1.heap.size→body.wpIn (Fence.wide.inRound l) 0 P (NA S I Ix s' W2) a1 W2) (fun _ _ _=>False))
    {tmps:=(ps.zip args).foldl (fun t(p,v)=>t.setIfInBounds p v) a.tmps,defers:=[]} W)
 (hdone:∀(s:β)(W:World),End s→I s W→W.heap[w.heap.size]? =some (.deferred (some []))→Q .normal {a with defers:=RX w::a.defers} W)
 (hstop:∀(c:Code)(W:World),Ix c W→W.heap[w.heap.size]? =some (.deferred (some []))→c.wpIn Fence.wide 0 P Q {a with defers:=RX w::a.defers} W):
 (Code.rangeFunc g ps assign body).wpIn Fence.wide 0 P Q a w:=by
 refine wpIn_rangeFunc ?_
 intro fn N1
 obtain⟨rec,lT⟩:∃rec:LoopState→Option Code→Loop,rec=fun st pe=>{state:=st,pending:=pe,fn,tmps:=a.tmps,params:=ps,assign,body,defers:=w.heap.size}:=⟨_,rfl⟩
 obtain⟨W1,ib⟩:∃W1,(w.alloc (.deferred (some []))).alloc (.loop (rec .ready none))=W1:=⟨_,rfl⟩
 have hB1:Bx w [.deferred (some []), .loop (rec .ready none)] W1:=by rw[←ib];exact Bx.eO w _ _
 have db:W1.heap.size=w.heap.size+2:=by rw[←ib];simp
 have YY:I s0 W1:=hI _ _ _ h0 (ag.aj hB1.1)
 refine⟨w.heap.size+1,[RX w],W1,{target:= .fn (.func gf) lb,args:= #[.func (.yield (w.heap.size+1)) #[] #[]]},W1,gf,#[.func (.yield (w.heap.size+1)) #[] #[]]++lb,W1,?_,?_,?_,?_,(fun h=>by cases h),?_⟩
 ·rw[←ib,lT];exact run_enterLoop_outer _ _ _ _ _
 ·simp only[resolve,hg]
  simp[go_sem]
 ·intro f' Uo;exact trivial
 ·simp[invoke,go_sem,eg]
 ·refine(LB (fun s W=>I s W∧W.heap[w.heap.size+1]? =some (.loop (rec .ready none))∧W.heap[w.heap.size]? =some (.deferred (some [])))
   (fun W=>∃c,Ix c W∧W.heap[w.heap.size+1]? =some (.loop (rec .done (some c)))∧W.heap[w.heap.size]? =some (.deferred (some [])))
   W1 db hB1.1 ?_ ?_ ?_ ⟨YY,hB1.bh rfl,hB1.bJ rfl⟩).mono ?_
  ·rintro s A B⟨h1,h2,h3⟩ho
   exact⟨hI _ _ _ h1 (ho.mono fun i hi=>⟨by have:=hi.1;omega,hi.2⟩),ho.at_ h2 (fun h=>by have:=h.1;omega),ho.at_ h3 (fun h=>by have:=h.1;omega)⟩
  ·rintro A B⟨c,h1,h2,h3⟩ho
   exact⟨c,LC _ _ _ h1 (ho.mono fun i hi=>⟨by have:=hi.1;omega,hi.2⟩),ho.at_ h2 (fun h=>by have:=h.1;omega),ho.at_ h3 (fun h=>by have:=h.1;omega)⟩
  ·rintro s args s' A⟨hi,hl,hk⟩hT
   have aT:w.heap.size+1<A.heap.size:=(Array.getElem?_eq_some_iff.1 hl).1
   have hy:=run_yield (P:=P) (args:=args) hl (by rw[lT];exact ia s args s' A hT)
   rw[lT]at hy
   refine⟨fn,_,assign,body,hy,roundIn_of_wpIn N1 (wpIn_mono (hround _ s args s' A hi hT (by omega)) ?_)⟩
   have Uq:¬S (w.heap.size+1):=fun h=>by have:=hS _ h;omega
   have Ur:¬S w.heap.size:=fun h=>by have:=hS _ h;omega
   have sub:∀i,S i→Wg S w i:=fun i h=> .inl h
   rintro e a1 A1 hp
   cases e with
   |normal=>
    obtain⟨ei,hb⟩:=hp
    have qt:=ei.at_ hl Uq
    have ni:=ei.at_ hk Ur
    have fK:ag (fun i=>i=w.heap.size+1) A1 (A1.putObj (w.heap.size+1) (.loop {rec .ready none with state:= .busy})):=(ag.refl (fun i=>i=w.heap.size+1) A1).putObj (.inl rfl) _
    refine⟨_,run_beginRound qt (by rw[lT]),?_⟩
    have sK:(A1.putObj (w.heap.size+1) (.loop {rec .ready none with state:= .busy})).heap[w.heap.size+1]? =some (.loop {rec .ready none with state:= .busy}):=World.putObj_heap_same (Array.getElem?_eq_some_iff.1 qt).1
    have vm:=fK.at_ ni (by show¬(w.heap.size=w.heap.size+1);omega)
    refine wpIn_mono (hb _ fK (by simp)) ?_
    have fin:∀(jump:Option Code)(A3:World),ag (S) (A1.putObj (w.heap.size+1) (.loop {rec .ready none with state:= .busy})) A3→
     (Instr.endRound (w.heap.size+1) jump).run P A3= .ok (.bool jump.isNone) (A3.putObj (w.heap.size+1) (.loop (rec (if jump.isNone then .ready else .done) jump)))∧
     (A3.putObj (w.heap.size+1) (.loop (rec (if jump.isNone then .ready else .done) jump))).heap[w.heap.size+1]? =some (.loop (rec (if jump.isNone then .ready else .done) jump))∧
     (A3.putObj (w.heap.size+1) (.loop (rec (if jump.isNone then .ready else .done) jump))).heap[w.heap.size]? =some (.deferred (some []))∧
     ag (Ml w k) A3 (A3.putObj (w.heap.size+1) (.loop (rec (if jump.isNone then .ready else .done) jump)))∧
     ag (Wg S w) A (A3.putObj (w.heap.size+1) (.loop (rec (if jump.isNone then .ready else .done) jump))):=fun jump A3 pq=>by
     have Iu:=pq.at_ sK Uq
     have zF:=pq.at_ vm Ur
     have hr:=run_endRound (P:=P) jump Iu
     have h5:=((ei.mono sub).trans (fK.mono fun i hi=> .inr hi)).trans (pq.mono sub)
     rw[lT]at hr⊢
     refine⟨hr,World.putObj_heap_same (Array.getElem?_eq_some_iff.1 Iu).1,(World.putObj_heap_other (by omega)).trans zF,(ag.refl _ _).putObj (.inl ⟨by omega,by omega⟩) _,?_⟩
     exact h5.putObj (.inl (.inr rfl)) _
    rintro e a3 A3 vI
    cases e with
    |normal=>
     obtain⟨pq,zB⟩:=vI
     obtain⟨hr,wD,kS,EO,th⟩:=fin none A3 pq
     exact⟨_,_,hr, .inl ⟨rfl,⟨hI _ _ _ zB EO,wD,kS⟩,th⟩⟩
    |ret=>
     obtain⟨pq,zB⟩:=vI
     obtain⟨hr,wD,kS,EO,th⟩:=fin (some .ret) A3 pq
     exact⟨_,_,hr, .inr ⟨rfl, .ret,LC _ _ _ zB EO,wD,kS⟩⟩
    |exit id=>
     obtain⟨pq,zB⟩:=vI
     obtain⟨hr,wD,kS,EO,th⟩:=fin (some (.exit id)) A3 pq
     exact⟨_,_,hr, .inr ⟨rfl, .exit id,LC _ _ _ zB EO,wD,kS⟩⟩
    |goto t=>
     obtain⟨pq,zB⟩:=vI
     obtain⟨hr,wD,kS,EO,th⟩:=fin (some (.goto t)) A3 pq
     exact⟨_,_,hr, .inr ⟨rfl, .goto t,LC _ _ _ zB EO,wD,kS⟩⟩
    |panic ch=>exact vI.elim
    |outgrown=>exact vI.elim
   |ret=>exact hp.elim
   |exit id=>exact hp.elim
   |goto t=>exact hp.elim
   |panic ch=>exact hp.elim
   |outgrown=>exact hp.elim
  ·rintro e W2⟨⟨v,rfl⟩,(⟨s,hE,hi,hl,hk⟩|⟨c,hi,hl,hk⟩)⟩
   ·exact⟨none,_,by have:=run_endLoop (P:=P) hl (by rw[lT];simp);rw[lT]at this;exact this,hdone s _ hE (hI _ _ _ hi ((ag.refl _ _).putObj (.inl ⟨by omega,by omega⟩) _)) ((World.putObj_heap_other (by omega)).trans hk)⟩
   ·exact⟨some c,_,by have:=run_endLoop (P:=P) hl (by rw[lT];simp);rw[lT]at this;exact this,hstop c _ (LC _ _ _ hi ((ag.refl _ _).putObj (.inl ⟨by omega,by omega⟩) _)) ((World.putObj_heap_other (by omega)).trans hk)⟩
end Go.Proofs.YtlkjnefenialbaaGreatDoor
