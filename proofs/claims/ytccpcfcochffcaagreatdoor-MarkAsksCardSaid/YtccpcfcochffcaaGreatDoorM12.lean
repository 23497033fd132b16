/- A part of MarkAsks's proof; no condition. -/
import Derived.Test.YtccpcfcochffcaaGreatDoorM01
import Derived.RangeFuncCalls
set_option linter.all false
set_option maxHeartbeats 8000000
set_option maxRecDepth 100000
namespace Go.Proofs.YtccpcfcochffcaaGreatDoor
open Go.RowKit
variable{r i k base:Nat}{w w' w0 A:aj}{o:Obj}{v:an}{e:TypeId}
theorem ai.putObj {S:aS}(h:ai S w w')(hr:S r\/w.heap.size<=r)(o:Obj):ai S w (w'.putObj r o):=
 ⟨h.os,h.tape,h.output,by simpa using h.size,λi hi hS=>(World.putObj_heap_other (by rintro rfl;rcases hr with hr|hr;exact hS hr;omega)).trans (h.block i hi hS)⟩
theorem ai.at_ {S:aS}(h:ai S w w')(hi:cI w i o)(hS:¬S i):w'.heap[i]? =some o:=
 (h.block i (Qaa.1 hi).1 hS).trans hi
def ZB(w:aj)(k:Nat):Nat->Prop:=λi=>w.heap.size+2<=i/\i<w.heap.size+2+k
def SU(w:aj)(k:Nat):Nat->Prop:=λi=>w.heap.size<=i/\i<w.heap.size+2+k
def NF(C:aS)(w:aj)(k:Nat):Nat->Prop:=λi=>C i\/w.heap.size+2+k<=i
def ZC(S:aS)(w:aj):Nat->Prop:=λi=>S i\/i=w.heap.size+1
def LZ {β:Type}(P:Program)(gf:Nat)(lb:Array an)(w:aj)(S:aS)(k:Nat)(s0:β)(wV:β->Array an->β->aj->Prop)(End:β->Prop):Prop:=
 ∀(J:β->aj->Prop)(Jx:aj->Prop)(W:aj),W.heap.size=w.heap.size+2->aq w W->
  (∀s A B,J s A->ai (ZB w k) A B->J s B)->(∀A B,Jx A->ai (ZB w k) A B->Jx B)->
  (∀s args s' A,J s A->wV s args s' A->YieldAt Fence.wide 0 P (w.heap.size+1) args A λe B=>(e=xR (xB true)/\J s' B/\ai (ZC S w) A B)\/(e=xR (xB false)/\Jx B))->
  J s0 W->CallsIn Fence.wide 0 P gf (#[.func (.yield (w.heap.size+1)) #[] #[]]++lb) W λe B=>(∃v,e=xR v)/\((∃s,End s/\J s B)\/Jx B)
def Kv {β:Type}(S:aS)(I:β->aj->Prop)(Ix:Code->aj->Prop)(s:β)(W:aj):Exit->Act->aj->Prop
 | .normal,_,B=>ai (S) W B/\I s B
 | .ret,_,B=>ai (S) W B/\Ix .ret B
 | .exit id,_,B=>ai (S) W B/\Ix (.exit id) B
 | .goto t,_,B=>ai (S) W B/\Ix (.goto t) B
 | .panic _,_,_=>False
 | .outgrown,_,_=>False
def ZD(w:aj):Deferred:={target:= .collected w.heap.size,args:= #[]}
def nJ {β:Type}{P:Program}{g:Operand}{ps:Array Tmp}{assign body:Code}{Q:Exit->Act->aj->Prop}{a:Act}{gf:Nat}{lb:Array an}
 (hg:a.eval g= .func (.func gf) #[] lb)(eg:∀args w,(callFunc gf args).run P w= .ok (.enter gf args) w)
 (S:aS)(k:Nat)(s0:β)(wV:β->Array an->β->aj->Prop)(End:β->Prop)(Xi:LZ P gf lb w S k s0 wV End)(ki:∀s args s' W,wV s args s' W->args.size=ps.size)(hS:∀i,S i->i<w.heap.size\/w.heap.size+2<=i)
 (I:β->aj->Prop)(Ix:Code->aj->Prop)(hI:∀s A B,I s A->ai (SU w k) A B->I s B)(Xj:∀c A B,Ix c A->ai (SU w k) A B->Ix c B)(h0:I s0 w)
 (hround:∀(l:Nat)(s:β)(args:Array an)(s':β)(W:aj),I s W->wV s args s' W->w.heap.size+2<=W.heap.size->
   assign.wpIn (Fence.wide.inRound l) 0 P (Exit.then (λa1 W1=>ai (S) W W1/\∀W2,ai (λi=>i=w.heap.size+1) W1 W2->W2.heap.size=W1.heap.size->body.wpIn (Fence.wide.inRound l) 0 P (Kv S I Ix s' W2) a1 W2) (λ_ _ _=>False))
    {tmps:=(ps.zip args).foldl (λt(p,v)=>t.setIfInBounds p v) a.tmps,defers:=[]} W)
 (hdone:∀(s:β)(W:aj),End s->I s W->dY W w (.deferred (some []))->Q .normal {a with defers:=ZD w::a.defers} W)
 (hstop:∀(c:Code)(W:aj),Ix c W->dY W w (.deferred (some []))->c.wpIn Fence.wide 0 P Q {a with defers:=ZD w::a.defers} W):
 (Code.rangeFunc g ps assign body).wpIn Fence.wide 0 P Q a w:=by
 refine wpIn_rangeFunc ?_;intro fn WV;obtain⟨rec,Dw⟩:∃rec:LoopState->Option Code->Loop,rec=λst pe=>{state:=st,pending:=pe,fn,tmps:=a.tmps,params:=ps,assign,body,defers:=w.heap.size}:=⟨_,rfl⟩;obtain⟨W1,dS⟩:=fx ((w.alloc (.deferred (some []))).alloc (.loop (rec .ready none)));have hB1:Bx w [.deferred (some []), .loop (rec .ready none)] W1:=by rw[<-dS];exact Bx.dh w _ _
 have cY:W1.heap.size=w.heap.size+2:=by rw[<-dS];simp
 have hI1:I s0 W1:=hI _ _ _ h0 (ai.ao hB1.1);refine⟨w.heap.size+1,[ZD w],W1,{target:= .fn (.func gf) lb,args:= #[.func (.yield (w.heap.size+1)) #[] #[]]},W1,gf,#[.func (.yield (w.heap.size+1)) #[] #[]]++lb,W1,?_,?_,?_,?_,(λh=>by cases h),?_⟩
 .rw[<-dS,Dw];exact run_enterLoop_outer _ _ _ _ _
 .simp only[resolve,hg];simp[go_sem]
 .intro f' hf';exact trivial
 .simp[invoke,go_sem,eg]
 .refine(Xi (λs W=>I s W/\cI W (w.heap.size+1) (.loop (rec .ready none))/\dY W w (.deferred (some [])))
   (λW=>∃c,Ix c W/\cI W (w.heap.size+1) (.loop (rec .done (some c)))/\dY W w (.deferred (some [])))
   W1 cY hB1.1 ?_ ?_ ?_ ⟨hI1,hB1.cE rfl,hB1.bJ rfl⟩).mono ?_
  .rintro s A B⟨h1,h2,h3⟩ho;exact⟨hI _ _ _ h1 (ho.mono λi hi=>⟨by have:=hi.1;omega,hi.2⟩),ho.at_ h2 (λh=>by have:=h.1;omega),ho.at_ h3 (λh=>by have:=h.1;omega)⟩
  .rintro A B⟨c,h1,h2,h3⟩ho;exact⟨c,Xj _ _ _ h1 (ho.mono λi hi=>⟨by have:=hi.1;omega,hi.2⟩),ho.at_ h2 (λh=>by have:=h.1;omega),ho.at_ h3 (λh=>by have:=h.1;omega)⟩
  .rintro s args s' A⟨hi,hl,hk⟩hT;have aX:w.heap.size+1<A.heap.size:=(Qaa.1 hl).1;have hy:=run_yield (P:=P) (args:=args) hl (by rw[Dw];exact ki s args s' A hT);rw[Dw]at hy;refine⟨fn,_,assign,body,hy,roundIn_of_wpIn WV (wpIn_mono (hround _ s args s' A hi hT (by omega)) ?_)⟩;have nb1:¬S (w.heap.size+1):=λh=>by have:=hS _ h;omega
   have nb0:¬S w.heap.size:=λh=>by have:=hS _ h;omega
   have sub:∀i,S i->ZC S w i:=λi h=> .inl h;rintro e a1 A1 hp;cases e with
   |normal=>
    obtain⟨fJ,hb⟩:=hp;have vi:=fJ.at_ hl nb1;have qM:=fJ.at_ hk nb0;have iM:ai (λi=>i=w.heap.size+1) A1 (A1.putObj (w.heap.size+1) (.loop {rec .ready none with state:= .busy})):=(ai.refl (λi=>i=w.heap.size+1) A1).putObj (.inl rfl) _;refine⟨_,run_beginRound vi (by rw[Dw]),?_⟩;have zU:(A1.putObj (w.heap.size+1) (.loop {rec .ready none with state:= .busy})).heap[w.heap.size+1]? =some (.loop {rec .ready none with state:= .busy}):=World.putObj_heap_same (Qaa.1 vi).1;have si:=iM.at_ qM (by show¬(w.heap.size=w.heap.size+1);omega);refine wpIn_mono (hb _ iM (by simp)) ?_;have fin:∀(jump:Option Code)(A3:aj),ai (S) (A1.putObj (w.heap.size+1) (.loop {rec .ready none with state:= .busy})) A3->
     (Instr.endRound (w.heap.size+1) jump).run P A3= .ok (xB jump.isNone) (A3.putObj (w.heap.size+1) (.loop (rec (if jump.isNone then .ready else .done) jump)))/\
     (A3.putObj (w.heap.size+1) (.loop (rec (if jump.isNone then .ready else .done) jump))).heap[w.heap.size+1]? =some (.loop (rec (if jump.isNone then .ready else .done) jump))/\
     (A3.putObj (w.heap.size+1) (.loop (rec (if jump.isNone then .ready else .done) jump))).heap[w.heap.size]? =some (.deferred (some []))/\
     ai (SU w k) A3 (A3.putObj (w.heap.size+1) (.loop (rec (if jump.isNone then .ready else .done) jump)))/\
     ai (ZC S w) A (A3.putObj (w.heap.size+1) (.loop (rec (if jump.isNone then .ready else .done) jump))):=λjump A3 Gu=>by
     have NS:=Gu.at_ zU nb1;have DL:=Gu.at_ si nb0;have hr:=run_endRound (P:=P) jump NS;have h5:=((fJ.mono sub).trans (iM.mono λi hi=> .inr hi)).trans (Gu.mono sub);rw[Dw]at hr⊢;refine⟨hr,World.putObj_heap_same (Qaa.1 NS).1,(World.putObj_heap_other (by omega)).trans DL,(ai.refl _ _).putObj (.inl ⟨by omega,by omega⟩) _,?_⟩;exact h5.putObj (.inl (.inr rfl)) _
    rintro e a3 A3 Du;cases e with
    |normal=>
     obtain⟨Gu,QY⟩:=Du;obtain⟨hr,Ns,ni,Xk,Dm⟩:=fin none A3 Gu;exact⟨_,_,hr, .inl ⟨rfl,⟨hI _ _ _ QY Xk,Ns,ni⟩,Dm⟩⟩
    |ret=>
     obtain⟨Gu,QY⟩:=Du;obtain⟨hr,Ns,ni,Xk,Dm⟩:=fin (some .ret) A3 Gu;exact⟨_,_,hr, .inr ⟨rfl, .ret,Xj _ _ _ QY Xk,Ns,ni⟩⟩
    |exit id=>
     obtain⟨Gu,QY⟩:=Du;obtain⟨hr,Ns,ni,Xk,Dm⟩:=fin (some (.exit id)) A3 Gu;exact⟨_,_,hr, .inr ⟨rfl, .exit id,Xj _ _ _ QY Xk,Ns,ni⟩⟩
    |goto t=>
     obtain⟨Gu,QY⟩:=Du;obtain⟨hr,Ns,ni,Xk,Dm⟩:=fin (some (.goto t)) A3 Gu;exact⟨_,_,hr, .inr ⟨rfl, .goto t,Xj _ _ _ QY Xk,Ns,ni⟩⟩
    |panic ch=>exact Du.elim
    |outgrown=>exact Du.elim
   |ret=>exact hp.elim
   |exit id=>exact hp.elim
   |goto t=>exact hp.elim
   |panic ch=>exact hp.elim
   |outgrown=>exact hp.elim
  .rintro e W2⟨⟨v,rfl⟩,(⟨s,hE,hi,hl,hk⟩|⟨c,hi,hl,hk⟩)⟩
   .exact⟨none,_,by have:=run_endLoop (P:=P) hl (by rw[Dw];simp);rw[Dw]at this;exact this,hdone s _ hE (hI _ _ _ hi ((ai.refl _ _).putObj (.inl ⟨by omega,by omega⟩) _)) ((World.putObj_heap_other (by omega)).trans hk)⟩
   .exact⟨some c,_,by have:=run_endLoop (P:=P) hl (by rw[Dw];simp);rw[Dw]at this;exact this,hstop c _ (Xj _ _ _ hi ((ai.refl _ _).putObj (.inl ⟨by omega,by omega⟩) _)) ((World.putObj_heap_other (by omega)).trans hk)⟩
def rdS(C:aS)(w:aj)(k:Nat):Nat->Prop:=ZC (NF C w k) w
def Ey {C:aS}{B:aj}(h:aq w0 A)(ho:ai (rdS C w k) A B)(hC:∀i,C i->w0.heap.size<=i)(hw:w0.heap.size<=w.heap.size):aq w0 B:=
 ⟨ho.os.trans h.os,ho.tape.trans h.tape,ho.output.trans h.output,Qcg h.size ho.size,λi hi=>(ho.block i (Qde hi h.size) (λhS=>by
   rcases hS with(hS|hS)|hS
   .have:=hC i hS;omega
   .omega
   .omega)).trans (h.block i hi)⟩
abbrev L3 {β:Type}(P:Program)(gf:Nat)(lb:Array an)(w:aj)(C:aS)(k:Nat)(s0:β)(wV:β->Array an->β->aj->Prop)(End:β->Prop):Prop:=LZ P gf lb w (NF C w k) k s0 wV End
abbrev VU {β:Type}(C:aS)(w:aj)(k:Nat)(I:β->aj->Prop)(Ix:Code->aj->Prop)(s:β)(W:aj):Exit->Act->aj->Prop:=Kv (NF C w k) I Ix s W
def uM {β:Type}{P:Program}{g:Operand}{ps:Array Tmp}{assign body:Code}{Q:Exit->Act->aj->Prop}{a:Act}{gf:Nat}{lb:Array an}
 (hg:a.eval g= .func (.func gf) #[] lb)(eg:∀args w,(callFunc gf args).run P w= .ok (.enter gf args) w)
 (C:aS)(k:Nat)(s0:β)(wV:β->Array an->β->aj->Prop)(End:β->Prop)(Xi:L3 P gf lb w C k s0 wV End)(ki:∀s args s' W,wV s args s' W->args.size=ps.size)(hC:∀i,C i->i<w.heap.size)
 (I:β->aj->Prop)(Ix:Code->aj->Prop)(hI:∀s A B,I s A->ai (SU w k) A B->I s B)(Xj:∀c A B,Ix c A->ai (SU w k) A B->Ix c B)(h0:I s0 w)
 (hround:∀(l:Nat)(s:β)(args:Array an)(s':β)(W:aj),I s W->wV s args s' W->w.heap.size+2<=W.heap.size->
   assign.wpIn (Fence.wide.inRound l) 0 P (Exit.then (λa1 W1=>ai (NF C w k) W W1/\∀W2,ai (λi=>i=w.heap.size+1) W1 W2->W2.heap.size=W1.heap.size->body.wpIn (Fence.wide.inRound l) 0 P (VU C w k I Ix s' W2) a1 W2) (λ_ _ _=>False))
    {tmps:=(ps.zip args).foldl (λt(p,v)=>t.setIfInBounds p v) a.tmps,defers:=[]} W)
 (hdone:∀(s:β)(W:aj),End s->I s W->dY W w (.deferred (some []))->Q .normal {a with defers:=ZD w::a.defers} W)
 (hstop:∀(c:Code)(W:aj),Ix c W->dY W w (.deferred (some []))->c.wpIn Fence.wide 0 P Q {a with defers:=ZD w::a.defers} W):
 (Code.rangeFunc g ps assign body).wpIn Fence.wide 0 P Q a w:=
 nJ hg eg (NF C w k) k s0 wV End Xi ki (λi h=>h.imp (hC i) λh=>by omega) I Ix hI Xj h0 hround hdone hstop
section
variable {P:Program}{α:Type} [aA α]
def Ik {l n:Nat}{ops:Array Oper}{rest:List Oper}{o:Oper}{a:Act}{Q:Exit->Act->aj->Prop}(hgd:o.guard=none)(hd:∀c,o.op≠ .defer c)(hr:(execOp a.eval o).run P w= .ok (.value v) w')
 (h:wpListIn (Fence.wide.inRound l) n P ops Q rest (a.put o.dst v) w'):wpListIn (Fence.wide.inRound l) n P ops Q (o::rest) a w:=by
 have hw:Region.wanted o (yielded ops a.tmps)=true:=by simp[Region.wanted,hgd]
 simp only[wpListIn,hw,if_true];refine⟨λf _=>trivial,?_⟩;rw[Oper.semAt_eq _ _ _ hd,hr];exact h
def qH {l n:Nat}{ops:Array Oper}{rest:List Oper}{o:Oper}{a:Act}{Q:Exit->Act->aj->Prop}(hgd:o.guard=none)(s x:Operand)(t:TypeId)
 (ho:o.op= .call {callee:= .builtin .append,args:= #[s,x],argTypes:= #[t,t]})
 (M:aS)(base:Nat)(e:TypeId)(i:TypeInfo)(z:an)(bytes:Nat)(ht:P.underlying t=some (.slice e))(hi:P.info? e=some i)(hz:i.zero=some z)
 (hsize:i.size=aA.size α)(hby:i.bytes=bytes)(hzs:z.cells.size=aA.size α)(hsz:0<aA.size α)
 (v:an)(xs:List α)(hs:a.eval s=v)(hacc:aP M base e w v xs)
 (F:aS)(sv:an)(cs:List an)(y:α)(hx:a.eval x=sv)(hr:bj F w (aA.size α) sv 1 cs)(hy:aA.rep (bB v M) w cs y)
 (h63:xs.length+1<=maxLen)(hbytes:(xs.length+1)*bytes<=140737488355328)(hbase:base<=w.heap.size)
 (h:∀a' c' w',aP M base e w' (xL a' (xs.length+1) c') (xs++[y])->Ev (bB v M) w (bB (xL a' (xs.length+1) c') M) w'->Below base w w'->wpListIn (Fence.wide.inRound l) n P ops Q rest (a.put o.dst (xL a' (xs.length+1) c')) w'):wpListIn (Fence.wide.inRound l) n P ops Q (o::rest) a w:=by
 obtain⟨css,h1,h2,h3⟩:=hacc;obtain⟨v',w',oe,k1,k2,k3⟩:=gD (P:=P) w base t o.type e i z (aA.size α) bytes ht hi hz hsize hby hzs hsz v xs.length css.flatten h1 sv 1 cs hr (aA.flat hy) h63 hbytes hbase;obtain⟨a',c',rfl,_,_⟩:=ey k1;refine Ik hgd (λc hc=>by rw[ho]at hc;cases hc) (v:=xL a' (xs.length+1) c') (w':=w') ?_ (h a' c' w' (aP.snoc h2 h3 hy k1 k2 k3) (Ev.grown k2 k3) ((Qbg _ w).grown k2 hbase λk hk=>(h1.lt k hk).1));unfold execOp;simp only[ho,resolve,invoke,builtin,Sem.run_bind,Sem.run_pure,Result.andThen_ok,List.map_toArray,List.map_cons,List.map_nil,hs,hx,oe]
end
theorem aP.uj {α:Type} [aA α]{S:aS}{xs:List α}(h:aP xF base e w v xs)(ho:ai S w w')(hb:∀i,S i->i<base)(hS:∀{M M':aS}{cs:List an}{x:α},aA.rep M w cs x->aA.rep M' w' cs x):aP xF base e w' v xs:=by
 obtain⟨css,k1,k2,k3⟩:=h;refine⟨css,⟨k1.1,?_⟩,k2,λi cs x hc hx=>hS (k3 i cs x hc hx)⟩;rcases k1.2 with h0|⟨g,cap,cur,e1,e2,e3,e4⟩
 .exact .inl h0
 .exact .inr ⟨g,cap,cur,e1,e2,ho.at_ e3 (λh=>by have:=hb _ h;omega),e4⟩
section
variable {P:Program}
def EC {l n:Nat}{ops:Array Oper}{o:Oper}{a:Act}{K:Act->aj->Prop}{Q:Exit->Act->aj->Prop}{E:Prop}(hgd:o.guard=none)(hd:∀c,o.op≠ .defer c)(hr:(execOp a.eval o).run P w= .ok (.value v) w')(h:K (a.put o.dst v) w'):
 if Region.wanted o (yielded ops a.tmps)=true then Oper.wpIn (Fence.wide.inRound l) n P o a w K Q else E:=by
 have hw:Region.wanted o (yielded ops a.tmps)=true:=by simp[Region.wanted,hgd]
 rw[if_pos hw];refine⟨λf _=>trivial,?_⟩;rw[Oper.semAt_eq _ _ _ hd,hr];exact h
variable {α:Type} [aA α]
def iV {l n:Nat}{ops:Array Oper}{o:Oper}{a:Act}{K:Act->aj->Prop}{Q:Exit->Act->aj->Prop}{E:Prop}(hgd:o.guard=none)(s x:Operand)(t:TypeId)
 (ho:o.op= .call {callee:= .builtin .append,args:= #[s,x],argTypes:= #[t,t]})
 (M:aS)(base:Nat)(e:TypeId)(i:TypeInfo)(z:an)(bytes:Nat)(ht:P.underlying t=some (.slice e))(hi:P.info? e=some i)(hz:i.zero=some z)
 (hsize:i.size=aA.size α)(hby:i.bytes=bytes)(hzs:z.cells.size=aA.size α)(hsz:0<aA.size α)
 (v:an)(xs:List α)(hs:a.eval s=v)(hacc:aP M base e w v xs)
 (sv:an)(ys:List α)(hx:a.eval x=sv)(hr:ab (bB v M) w sv ys)
 (h63:xs.length+ys.length<=maxLen)(hbytes:(xs.length+ys.length)*bytes<=140737488355328)(hbase:base<=w.heap.size)
 (h:∀a' c' w',aP M base e w' (xL a' (xs.length+ys.length) c') (xs++ys)->Ev (bB v M) w (bB (xL a' (xs.length+ys.length) c') M) w'->Below base w w'->K (a.put o.dst (xL a' (xs.length+ys.length) c')) w'):
 if Region.wanted o (yielded ops a.tmps)=true then Oper.wpIn (Fence.wide.inRound l) n P o a w K Q else E:=by
 obtain⟨css,h1,h2,h3⟩:=hacc;obtain⟨Nk,k1,k2,k3⟩:=hr;have oN:∀u∈Nk.flatten,u.oneCell'=true:=λu hu=>by
  obtain⟨cs,bD,hu⟩:=List.mem_flatten.1 hu;obtain⟨i,hi⟩:=List.getElem?_of_mem bD;have zV:i<ys.length:=by rw[<-k2];exact(Qad.1 hi).1
  exact aA.flat (k3 i cs _ hi (Qac zV)) u hu
 obtain⟨v',w',oe,j1,j2,j3⟩:=gD (P:=P) w base t o.type e i z (aA.size α) bytes ht hi hz hsize hby hzs hsz v xs.length css.flatten h1 sv ys.length Nk.flatten k1 oN h63 hbytes hbase;obtain⟨a',c',rfl,_,_⟩:=ey j1;refine EC hgd (λc hc=>by rw[ho]at hc;cases hc) (v:=xL a' (xs.length+ys.length) c') (w':=w') ?_ (h a' c' w' (aP.app h2 h3 k2 k3 j1 j2 j3) (Ev.grown j2 j3) ((Qbg _ w).grown j2 hbase λk hk=>(h1.lt k hk).1));unfold execOp;simp only[ho,resolve,invoke,builtin,Sem.run_bind,Sem.run_pure,Result.andThen_ok,List.map_toArray,List.map_cons,List.map_nil,hs,hx,oe]
end
def nQ {α:Type}(K:α->an)(p:α×an×Nat):MapEntry:=⟨K p.1,p.2.1,p.2.2⟩
theorem mT {α:Type} [DecidableEq α](K:α->an)(td:TypeDesc)(hK:∀x y,Instr.sameNow td (K x) (K y)=some (decide (x=y)))(x:α):∀(es:List (α×an×Nat))(i:Nat),Instr.findNow td (K x) (es.map (nQ K)) i=some ((es.findIdx? λp=>decide (x=p.1)).map λj=>(i+j,(es[j]?.map (·.2.1)).getD undef))
 |[],i=>by simp[Instr.findNow]
 |p::r,i=>by
  simp only[List.map_cons,Instr.findNow];rw[show(nQ K p).key=K p.1 from rfl,hK];by_cases h:x=p.1
  .simp[h,List.findIdx?_cons,nQ]
  .simp only[h,decide_false];rw[mT K td hK x r (i+1)];simp only[List.findIdx?_cons,h,decide_false,Bool.false_eq_true,if_false,Option.map_map];congr 2;funext j;simp;omega
def mU(x y:ByteArray):Instr.sameNow .string (.string x) (.string y)=some (decide (x=y)):=by
 simp only[Instr.sameNow];congr 1;cases x with
 |mk a=>
  cases y with
  |mk b=>
   have h1:((⟨a⟩:ByteArray)==⟨b⟩)=(a==b):=by first|rfl|simp[BEq.beq]
   rw[h1,Bool.eq_iff_iff];simp
def yW(x y:Int):Instr.sameNow (.int .i64) (xI x) (xI y)=some (decide (x=y)):=by
 simp only[Instr.sameNow,if_true];congr 1
section
variable {α:Type} [DecidableEq α](K:α->an)(td:TypeDesc)(hK:∀x y,Instr.sameNow td (K x) (K y)=some (decide (x=y)))
variable {P:Program}{kt et mt:TypeId}{w:aj}{b:Nat}{es:List (α×an×Nat)}{clk:Nat}
def bP(es:List (α×an×Nat))(x:α):Option an:=(es.find? λp=>decide (x=p.1)).map (·.2.1)
def gq(x:α)(es:List (α×an×Nat)):((es.findIdx? λp=>decide (x=p.1)).map λj=>(es[j]?.map (·.2.1)).getD undef)=bP es x:=by
 unfold bP;induction es with
 |nil=>rfl
 |cons p r ih=>
  by_cases h:x=p.1
  .simp[List.findIdx?_cons,h]
  .simp only[List.findIdx?_cons,h,decide_false,Bool.false_eq_true,if_false,List.find?_cons,Option.map_map];rw[<-ih];congr 1
def cg(w:aj)(b:Nat)(es:List (α×an×Nat))(clk:Nat):Prop:=cI w b (.map (es.map (nQ K)).toArray clk)
variable(hm:P.underlying mt=some (.map kt et))(hk:P.underlying kt=some td)(hchk:∀(e:Bool)(x:α)(w:aj),(Instr.checkKey e 10000 kt (K x)).run P w= .ok () w)
include hK hm hk hchk
theorem cg.lookup(h:cg K w b es clk)(x:α)(v:an)(hv:bP es x=some v):(Instr.lookup mt (.map (some b)) (K x) false).run P w= .ok v w:=by
 have hf:(Instr.findKey kt (K x) (es.map (nQ K)).toArray.toList).run P w= .ok ((es.findIdx? λp=>decide (x=p.1)).map λj=>(0+j,(es[j]?.map (·.2.1)).getD undef)) w:=by
  simp only[Instr.findKey,Sem.run_bind,run_underlying hk,Result.andThen_ok];rw[mT K td hK x es 0];rfl
 simp only[Instr.lookup,Sem.run_bind,run_underlying hm,Result.andThen_ok,MapKept.run_getObj_map h,Sem.run_pure,hchk];rw[hf];have h2:=gq x es;rw[hv]at h2;cases hq:es.findIdx? λp=>decide (x=p.1)with
 |none=>rw[hq]at h2;cases h2
 |some j=>
  rw[hq]at h2;simp only[Option.map_some,Qcf]at h2;simp[h2]
theorem cg.qc2(h:cg K w b es clk)(x:α)(z:an)(hz:(zeroValue et).run P w= .ok z w)(hv:bP es x=none):(Instr.lookup mt (.map (some b)) (K x) false).run P w= .ok z w:=by
 have hf:(Instr.findKey kt (K x) (es.map (nQ K)).toArray.toList).run P w= .ok ((es.findIdx? λp=>decide (x=p.1)).map λj=>(0+j,(es[j]?.map (·.2.1)).getD undef)) w:=by
  simp only[Instr.findKey,Sem.run_bind,run_underlying hk,Result.andThen_ok];rw[mT K td hK x es 0];rfl
 simp only[Instr.lookup,Sem.run_bind,run_underlying hm,Result.andThen_ok,MapKept.run_getObj_map h,Sem.run_pure,hchk];rw[hf];have h2:=gq x es;rw[hv]at h2;cases hq:es.findIdx? λp=>decide (x=p.1)with
 |some j=>rw[hq]at h2;cases h2
 |none=>simp[hz]
theorem cg.insert(h:cg K w b es clk)(x:α)(v:an)(hv:bP es x=none):(Instr.mapUpdate mt (.map (some b)) (K x) v).run P w= .ok () (w.putObj b (.map ((es++[(x,v,clk)]).map (nQ K)).toArray (clk+1)))/\cg K (w.putObj b (.map ((es++[(x,v,clk)]).map (nQ K)).toArray (clk+1))) b (es++[(x,v,clk)]) (clk+1):=by
 have hf:(Instr.findKey kt (K x) (es.map (nQ K)).toArray.toList).run P w= .ok ((es.findIdx? λp=>decide (x=p.1)).map λj=>(0+j,(es[j]?.map (·.2.1)).getD undef)) w:=by
  simp only[Instr.findKey,Sem.run_bind,run_underlying hk,Result.andThen_ok];rw[mT K td hK x es 0];rfl
 refine⟨?_,World.putObj_heap_same (Qaa.1 h).1⟩;simp only[Instr.mapUpdate,Sem.run_bind,run_underlying hm,Result.andThen_ok,MapKept.run_getObj_map h,Sem.run_pure,hchk];rw[hf];have h2:=gq x es;rw[hv]at h2;cases hq:es.findIdx? λp=>decide (x=p.1)with
 |some j=>rw[hq]at h2;cases h2
 |none=>
  have hh:cI w b (.map (es.map (nQ K)).toArray clk):=h;simp[setObj,Sem.run,World.putObj,hh,nQ]
end
section
variable {α:Type} [DecidableEq α](K:α->an)(td:TypeDesc)
variable {P:Program}{kt et mt:TypeId}{w:aj}{b:Nat}{es:List (α×an×Nat)}{clk:Nat}
def zE(P:Program)(kt:TypeId):Prop:=∀(x:α)(es:List (α×an×Nat))(w:aj),(Instr.findKey kt (K x) (es.map (nQ K)).toArray.toList).run P w= .ok ((es.findIdx? λp=>decide (x=p.1)).map λj=>(0+j,(es[j]?.map (·.2.1)).getD undef)) w
def MP(hK:∀x y,Instr.sameNow td (K x) (K y)=some (decide (x=y)))(hk:P.underlying kt=some td):zE K P kt:=λx es w=>by
 simp only[Instr.findKey,Sem.run_bind,run_underlying hk,Result.andThen_ok];rw[mT K td hK x es 0];rfl
theorem BR(hE:∀(x y:α)(w:aj),(Op.equal kt (K x) (K y)).run P w= .ok (decide (x=y)) w)(x:α)(w:aj):∀(es:List (α×an×Nat))(i:Nat),(Instr.findAsking kt (K x) (es.map (nQ K)) i).run P w= .ok ((es.findIdx? λp=>decide (x=p.1)).map λj=>(i+j,(es[j]?.map (·.2.1)).getD undef)) w
 |[],i=>by simp[Instr.findAsking]
 |p::r,i=>by
  simp only[List.map_cons,Instr.findAsking,Sem.run_bind];rw[show(nQ K p).key=K p.1 from rfl,hE];simp only[Result.andThen_ok];by_cases h:x=p.1
  .simp[h,List.findIdx?_cons,nQ]
  .simp only[h,decide_false,Bool.false_eq_true,if_false];rw[BR hE x w r (i+1)];simp only[List.findIdx?_cons,h,decide_false,Bool.false_eq_true,if_false,Option.map_map];congr 2;funext j;simp;omega
def MQ(hN:∀x y,Instr.sameNow td (K x) (K y)=none)(hk:P.underlying kt=some td)(hE:∀(x y:α)(w:aj),(Op.equal kt (K x) (K y)).run P w= .ok (decide (x=y)) w):zE K P kt:=λx es w=>by
 simp only[Instr.findKey,Sem.run_bind,run_underlying hk,Result.andThen_ok];cases es with
 |nil=>simp[Instr.findNow]
 |cons p r=>
  simp only[List.map_cons,Instr.findNow];rw[show(nQ K p).key=K p.1 from rfl,hN];have h:=BR K hE x w (p::r) 0;simp only[List.map_cons]at h;exact h
variable(hm:P.underlying mt=some (.map kt et))(hF:zE K P kt)(hchk:∀(e:Bool)(x:α)(w:aj),(Instr.checkKey e 10000 kt (K x)).run P w= .ok () w)
include hm hF hchk
theorem cg.UN(h:cg K w b es clk)(x:α)(v:an)(hv:bP es x=some v):(Instr.lookup mt (.map (some b)) (K x) true).run P w= .ok (.tuple #[v,xB true]) w:=by
 have hf:=hF x es w;simp only[Instr.lookup,Sem.run_bind,run_underlying hm,Result.andThen_ok,MapKept.run_getObj_map h,Sem.run_pure,hchk];rw[hf];have h2:=gq x es;rw[hv]at h2;cases hq:es.findIdx? λp=>decide (x=p.1)with
 |none=>rw[hq]at h2;cases h2
 |some j=>
  rw[hq]at h2;simp only[Option.map_some,Qcf]at h2;simp[h2]
theorem cg.ZU(h:cg K w b es clk)(x:α)(v:an)(hv:bP es x=some v):(Instr.lookup mt (.map (some b)) (K x) false).run P w= .ok v w:=by
 have hf:=hF x es w;simp only[Instr.lookup,Sem.run_bind,run_underlying hm,Result.andThen_ok,MapKept.run_getObj_map h,Sem.run_pure,hchk];rw[hf];have h2:=gq x es;rw[hv]at h2;cases hq:es.findIdx? λp=>decide (x=p.1)with
 |none=>rw[hq]at h2;cases h2
 |some j=>
  rw[hq]at h2;simp only[Option.map_some,Qcf]at h2;simp[h2]
theorem cg.ZV(h:cg K w b es clk)(x:α)(z:an)(hz:(zeroValue et).run P w= .ok z w)(hv:bP es x=none):(Instr.lookup mt (.map (some b)) (K x) true).run P w= .ok (.tuple #[z,xB false]) w:=by
 have hf:=hF x es w;simp only[Instr.lookup,Sem.run_bind,run_underlying hm,Result.andThen_ok,MapKept.run_getObj_map h,Sem.run_pure,hchk];rw[hf];have h2:=gq x es;rw[hv]at h2;cases hq:es.findIdx? λp=>decide (x=p.1)with
 |some j=>rw[hq]at h2;cases h2
 |none=>simp[hz]
theorem cg.Wh(h:cg K w b es clk)(x:α)(v:an)(hv:bP es x=none):∃w',(Instr.mapUpdate mt (.map (some b)) (K x) v).run P w= .ok () w'/\cg K w' b (es++[(x,v,clk)]) (clk+1)/\ai (λi=>i=b) w w':=by
 have hf:=hF x es w;refine⟨w.putObj b (.map ((es++[(x,v,clk)]).map (nQ K)).toArray (clk+1)),?_,World.putObj_heap_same (Qaa.1 h).1,(ai.refl (λi=>i=b) w).putObj (.inl rfl) _⟩;simp only[Instr.mapUpdate,Sem.run_bind,run_underlying hm,Result.andThen_ok,MapKept.run_getObj_map h,Sem.run_pure,hchk];rw[hf];have h2:=gq x es;rw[hv]at h2;cases hq:es.findIdx? λp=>decide (x=p.1)with
 |some j=>rw[hq]at h2;cases h2
 |none=>
  have hh:cI w b (.map (es.map (nQ K)).toArray clk):=h;simp[setObj,Sem.run,World.putObj,hh,nQ]
end
def BS {α:Type} [DecidableEq α]{es:List (α×an×Nat)}{x:α}{clk:Nat}(y:α)(h:bP es x=none):bP (es++[(x,v,clk)]) y=if y=x then some v else bP es y:=by
 unfold bP at h⊢;rw[List.find?_append];by_cases e:y=x
 .subst e;rw[Option.map_eq_none_iff]at h;rw[h];simp
 .cases hq:es.find? λp=>decide (y=p.1)<;>simp[e]
end Go.Proofs.YtccpcfcochffcaaGreatDoor
