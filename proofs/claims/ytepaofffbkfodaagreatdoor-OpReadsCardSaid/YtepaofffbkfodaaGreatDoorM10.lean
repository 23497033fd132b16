/- A part of OpReads's proof; no condition. -/
import Derived.Test.YtepaofffbkfodaaGreatDoorM01
import Derived.RangeFuncCalls
set_option linter.all false
set_option maxHeartbeats 8000000
set_option maxRecDepth 100000
namespace Go.Proofs.YtepaofffbkfodaaGreatDoor
variable{r i k base j:Nat}{w w' w0 A:aj}{o:Obj}{v:an}{e:TypeId}
section
open Go.RowKit
theorem ai.putObj {S:aN}(h:ai S w w')(hr:S r\/w.heap.size<=r)(o:Obj):ai S w (w'.putObj r o):=
 ⟨h.os,h.tape,h.output,by simpa using h.size,λi hi hS=>(World.putObj_heap_other (by rintro rfl;rcases hr with hr|hr;exact hS hr;omega)).trans (h.block i hi hS)⟩
theorem ai.at_ {S:aN}(h:ai S w w')(hi:bR w i o)(hS:¬S i):w'.heap[i]? =some o:=
 (h.block i (Qaa.1 hi).1 hS).trans hi
def Zh(w:aj)(k:Nat):Nat->Prop:=λi=>w.heap.size+2<=i/\i<w.heap.size+2+k
def Sp(w:aj)(k:Nat):Nat->Prop:=λi=>w.heap.size<=i/\i<w.heap.size+2+k
def NG(C:aN)(w:aj)(k:Nat):Nat->Prop:=λi=>C i\/w.heap.size+2+k<=i
def Zi(S:aN)(w:aj):Nat->Prop:=λi=>S i\/i=w.heap.size+1
def LH {β:Type}(P:Program)(gf:Nat)(lb:Array an)(w:aj)(S:aN)(k:Nat)(s0:β)(vO:β->Array an->β->aj->Prop)(End:β->Prop):Prop:=
 ∀(J:β->aj->Prop)(Jx:aj->Prop)(W:aj),W.heap.size=w.heap.size+2->aq w W->
  (∀s A B,J s A->ai (Zh w k) A B->J s B)->(∀A B,Jx A->ai (Zh w k) A B->Jx B)->
  (∀s args s' A,J s A->vO s args s' A->YieldAt Fence.wide 0 P (w.heap.size+1) args A λe B=>(e=xR (xB true)/\J s' B/\ai (Zi S w) A B)\/(e=xR (xB false)/\Jx B))->
  J s0 W->CallsIn Fence.wide 0 P gf (#[.func (.yield (w.heap.size+1)) #[] #[]]++lb) W λe B=>(∃v,e=xR v)/\((∃s,End s/\J s B)\/Jx B)
def JY {β:Type}(S:aN)(I:β->aj->Prop)(Ix:Code->aj->Prop)(s:β)(W:aj):Exit->Act->aj->Prop
 | .normal,_,B=>ai (S) W B/\I s B
 | .ret,_,B=>ai (S) W B/\Ix .ret B
 | .exit id,_,B=>ai (S) W B/\Ix (.exit id) B
 | .goto t,_,B=>ai (S) W B/\Ix (.goto t) B
 | .panic _,_,_=>False
 | .outgrown,_,_=>False
def Vn(w:aj):Deferred:={target:= .collected w.heap.size,args:= #[]}
def nz {β:Type}{P:Program}{g:Operand}{ps:Array Tmp}{assign body:Code}{Q:Exit->Act->aj->Prop}{a:Act}{gf:Nat}{lb:Array an}
 (hg:a.eval g= .func (.func gf) #[] lb)(eg:∀args w,(callFunc gf args).run P w= .ok (.enter gf args) w)
 (S:aN)(k:Nat)(s0:β)(vO:β->Array an->β->aj->Prop)(End:β->Prop)(QX:LH P gf lb w S k s0 vO End)(j5:∀s args s' W,vO s args s' W->args.size=ps.size)(hS:∀i,S i->i<w.heap.size\/w.heap.size+2<=i)
 (I:β->aj->Prop)(Ix:Code->aj->Prop)(hI:∀s A B,I s A->ai (Sp w k) A B->I s B)(WU:∀c A B,Ix c A->ai (Sp w k) A B->Ix c B)(h0:I s0 w)
 (hround:∀(l:Nat)(s:β)(args:Array an)(s':β)(W:aj),I s W->vO s args s' W->w.heap.size+2<=W.heap.size->
   assign.wpIn (Fence.wide.inRound l) 0 P (Exit.then (λa1 W1=>ai (S) W W1/\∀W2,ai (λi=>i=w.heap.size+1) W1 W2->W2.heap.size=W1.heap.size->body.wpIn (Fence.wide.inRound l) 0 P (JY S I Ix s' W2) a1 W2) (λ_ _ _=>False))
    {tmps:=(ps.zip args).foldl (λt(p,v)=>t.setIfInBounds p v) a.tmps,defers:=[]} W)
 (hdone:∀(s:β)(W:aj),End s->I s W->di W w (.deferred (some []))->Q .normal {a with defers:=Vn w::a.defers} W)
 (hstop:∀(c:Code)(W:aj),Ix c W->di W w (.deferred (some []))->c.wpIn Fence.wide 0 P Q {a with defers:=Vn w::a.defers} W):
 (Code.rangeFunc g ps assign body).wpIn Fence.wide 0 P Q a w:=by
 refine wpIn_rangeFunc ?_;intro fn WG;obtain⟨rec,CD⟩:∃rec:LoopState->Option Code->Loop,rec=λst pe=>{state:=st,pending:=pe,fn,tmps:=a.tmps,params:=ps,assign,body,defers:=w.heap.size}:=⟨_,rfl⟩;obtain⟨W1,bT⟩:=jO ((w.alloc (.deferred (some []))).alloc (.loop (rec .ready none)));have hB1:Bx w [.deferred (some []), .loop (rec .ready none)] W1:=by rw[<-bT];exact Bx.dq w _ _
 have dO:W1.heap.size=w.heap.size+2:=by rw[<-bT];simp
 have hI1:I s0 W1:=hI _ _ _ h0 (ai.ao hB1.1);refine⟨w.heap.size+1,[Vn w],W1,{target:= .fn (.func gf) lb,args:= #[.func (.yield (w.heap.size+1)) #[] #[]]},W1,gf,#[.func (.yield (w.heap.size+1)) #[] #[]]++lb,W1,?_,?_,?_,?_,(λh=>by cases h),?_⟩
 .rw[<-bT,CD];exact run_enterLoop_outer _ _ _ _ _
 .simp only[resolve,hg];simp[go_sem]
 .intro f' hf';exact trivial
 .simp[invoke,go_sem,eg]
 .refine(QX (λs W=>I s W/\bR W (w.heap.size+1) (.loop (rec .ready none))/\di W w (.deferred (some [])))
   (λW=>∃c,Ix c W/\bR W (w.heap.size+1) (.loop (rec .done (some c)))/\di W w (.deferred (some [])))
   W1 dO hB1.1 ?_ ?_ ?_ ⟨hI1,hB1.bU rfl,hB1.bG rfl⟩).mono ?_
  .rintro s A B⟨h1,h2,h3⟩ho;exact⟨hI _ _ _ h1 (ho.mono λi hi=>⟨by have:=hi.1;omega,hi.2⟩),ho.at_ h2 (λh=>by have:=h.1;omega),ho.at_ h3 (λh=>by have:=h.1;omega)⟩
  .rintro A B⟨c,h1,h2,h3⟩ho;exact⟨c,WU _ _ _ h1 (ho.mono λi hi=>⟨by have:=hi.1;omega,hi.2⟩),ho.at_ h2 (λh=>by have:=h.1;omega),ho.at_ h3 (λh=>by have:=h.1;omega)⟩
  .rintro s args s' A⟨hi,hl,hk⟩hT;have bu:w.heap.size+1<A.heap.size:=(Qaa.1 hl).1;have hy:=run_yield (P:=P) (args:=args) hl (by rw[CD];exact j5 s args s' A hT);rw[CD]at hy;refine⟨fn,_,assign,body,hy,roundIn_of_wpIn WG (wpIn_mono (hround _ s args s' A hi hT (by omega)) ?_)⟩;have nb1:¬S (w.heap.size+1):=λh=>by have:=hS _ h;omega
   have nb0:¬S w.heap.size:=λh=>by have:=hS _ h;omega
   have sub:∀i,S i->Zi S w i:=λi h=> .inl h;rintro e a1 A1 hp;cases e with
   |normal=>
    obtain⟨kg,hb⟩:=hp;have Ct:=kg.at_ hl nb1;have oF:=kg.at_ hk nb0;have nZ:ai (λi=>i=w.heap.size+1) A1 (A1.putObj (w.heap.size+1) (.loop {rec .ready none with state:= .busy})):=(ai.refl (λi=>i=w.heap.size+1) A1).putObj (.inl rfl) _;refine⟨_,run_beginRound Ct (by rw[CD]),?_⟩;have Bh:(A1.putObj (w.heap.size+1) (.loop {rec .ready none with state:= .busy})).heap[w.heap.size+1]? =some (.loop {rec .ready none with state:= .busy}):=World.putObj_heap_same (Qaa.1 Ct).1;have ou:=nZ.at_ oF (by show¬(w.heap.size=w.heap.size+1);omega);refine wpIn_mono (hb _ nZ (by simp)) ?_;have fin:∀(jump:Option Code)(A3:aj),ai (S) (A1.putObj (w.heap.size+1) (.loop {rec .ready none with state:= .busy})) A3->
     (Instr.endRound (w.heap.size+1) jump).run P A3= .ok (xB jump.isNone) (A3.putObj (w.heap.size+1) (.loop (rec (if jump.isNone then .ready else .done) jump)))/\
     (A3.putObj (w.heap.size+1) (.loop (rec (if jump.isNone then .ready else .done) jump))).heap[w.heap.size+1]? =some (.loop (rec (if jump.isNone then .ready else .done) jump))/\
     (A3.putObj (w.heap.size+1) (.loop (rec (if jump.isNone then .ready else .done) jump))).heap[w.heap.size]? =some (.deferred (some []))/\
     ai (Sp w k) A3 (A3.putObj (w.heap.size+1) (.loop (rec (if jump.isNone then .ready else .done) jump)))/\
     ai (Zi S w) A (A3.putObj (w.heap.size+1) (.loop (rec (if jump.isNone then .ready else .done) jump))):=λjump A3 KN=>by
     have RO:=KN.at_ Bh nb1;have Bm:=KN.at_ ou nb0;have hr:=run_endRound (P:=P) jump RO;have h5:=((kg.mono sub).trans (nZ.mono λi hi=> .inr hi)).trans (KN.mono sub);rw[CD]at hr⊢;refine⟨hr,World.putObj_heap_same (Qaa.1 RO).1,(World.putObj_heap_other (by omega)).trans Bm,(ai.refl _ _).putObj (.inl ⟨by omega,by omega⟩) _,?_⟩;exact h5.putObj (.inl (.inr rfl)) _
    rintro e a3 A3 F5;cases e with
    |normal=>
     obtain⟨KN,QO⟩:=F5;obtain⟨hr,Nn,oy,NS,zb⟩:=fin none A3 KN;exact⟨_,_,hr, .inl ⟨rfl,⟨hI _ _ _ QO NS,Nn,oy⟩,zb⟩⟩
    |ret=>
     obtain⟨KN,QO⟩:=F5;obtain⟨hr,Nn,oy,NS,zb⟩:=fin (some .ret) A3 KN;exact⟨_,_,hr, .inr ⟨rfl, .ret,WU _ _ _ QO NS,Nn,oy⟩⟩
    |exit id=>
     obtain⟨KN,QO⟩:=F5;obtain⟨hr,Nn,oy,NS,zb⟩:=fin (some (.exit id)) A3 KN;exact⟨_,_,hr, .inr ⟨rfl, .exit id,WU _ _ _ QO NS,Nn,oy⟩⟩
    |goto t=>
     obtain⟨KN,QO⟩:=F5;obtain⟨hr,Nn,oy,NS,zb⟩:=fin (some (.goto t)) A3 KN;exact⟨_,_,hr, .inr ⟨rfl, .goto t,WU _ _ _ QO NS,Nn,oy⟩⟩
    |panic ch=>exact F5.elim
    |outgrown=>exact F5.elim
   |ret=>exact hp.elim
   |exit id=>exact hp.elim
   |goto t=>exact hp.elim
   |panic ch=>exact hp.elim
   |outgrown=>exact hp.elim
  .rintro e W2⟨⟨v,rfl⟩,(⟨s,hE,hi,hl,hk⟩|⟨c,hi,hl,hk⟩)⟩
   .exact⟨none,_,by have:=run_endLoop (P:=P) hl (by rw[CD];simp);rw[CD]at this;exact this,hdone s _ hE (hI _ _ _ hi ((ai.refl _ _).putObj (.inl ⟨by omega,by omega⟩) _)) ((World.putObj_heap_other (by omega)).trans hk)⟩
   .exact⟨some c,_,by have:=run_endLoop (P:=P) hl (by rw[CD];simp);rw[CD]at this;exact this,hstop c _ (WU _ _ _ hi ((ai.refl _ _).putObj (.inl ⟨by omega,by omega⟩) _)) ((World.putObj_heap_other (by omega)).trans hk)⟩
def rdS(C:aN)(w:aj)(k:Nat):Nat->Prop:=Zi (NG C w k) w
def DD {C:aN}{B:aj}(h:aq w0 A)(ho:ai (rdS C w k) A B)(hC:∀i,C i->w0.heap.size<=i)(hw:w0.heap.size<=w.heap.size):aq w0 B:=
 ⟨ho.os.trans h.os,ho.tape.trans h.tape,ho.output.trans h.output,Qcg h.size ho.size,λi hi=>(ho.block i (Qde hi h.size) (λhS=>by
   rcases hS with(hS|hS)|hS
   .have:=hC i hS;omega
   .omega
   .omega)).trans (h.block i hi)⟩
abbrev G9 {β:Type}(P:Program)(gf:Nat)(lb:Array an)(w:aj)(C:aN)(k:Nat)(s0:β)(vO:β->Array an->β->aj->Prop)(End:β->Prop):Prop:=LH P gf lb w (NG C w k) k s0 vO End
abbrev Vo {β:Type}(C:aN)(w:aj)(k:Nat)(I:β->aj->Prop)(Ix:Code->aj->Prop)(s:β)(W:aj):Exit->Act->aj->Prop:=JY (NG C w k) I Ix s W
def pV {β:Type}{P:Program}{g:Operand}{ps:Array Tmp}{assign body:Code}{Q:Exit->Act->aj->Prop}{a:Act}{gf:Nat}{lb:Array an}
 (hg:a.eval g= .func (.func gf) #[] lb)(eg:∀args w,(callFunc gf args).run P w= .ok (.enter gf args) w)
 (C:aN)(k:Nat)(s0:β)(vO:β->Array an->β->aj->Prop)(End:β->Prop)(QX:G9 P gf lb w C k s0 vO End)(j5:∀s args s' W,vO s args s' W->args.size=ps.size)(hC:∀i,C i->i<w.heap.size)
 (I:β->aj->Prop)(Ix:Code->aj->Prop)(hI:∀s A B,I s A->ai (Sp w k) A B->I s B)(WU:∀c A B,Ix c A->ai (Sp w k) A B->Ix c B)(h0:I s0 w)
 (hround:∀(l:Nat)(s:β)(args:Array an)(s':β)(W:aj),I s W->vO s args s' W->w.heap.size+2<=W.heap.size->
   assign.wpIn (Fence.wide.inRound l) 0 P (Exit.then (λa1 W1=>ai (NG C w k) W W1/\∀W2,ai (λi=>i=w.heap.size+1) W1 W2->W2.heap.size=W1.heap.size->body.wpIn (Fence.wide.inRound l) 0 P (Vo C w k I Ix s' W2) a1 W2) (λ_ _ _=>False))
    {tmps:=(ps.zip args).foldl (λt(p,v)=>t.setIfInBounds p v) a.tmps,defers:=[]} W)
 (hdone:∀(s:β)(W:aj),End s->I s W->di W w (.deferred (some []))->Q .normal {a with defers:=Vn w::a.defers} W)
 (hstop:∀(c:Code)(W:aj),Ix c W->di W w (.deferred (some []))->c.wpIn Fence.wide 0 P Q {a with defers:=Vn w::a.defers} W):
 (Code.rangeFunc g ps assign body).wpIn Fence.wide 0 P Q a w:=
 nz hg eg (NG C w k) k s0 vO End QX j5 (λi h=>h.imp (hC i) λh=>by omega) I Ix hI WU h0 hround hdone hstop
section
variable {P:Program}{α:Type} [au α]
def Ha {l n:Nat}{ops:Array Oper}{rest:List Oper}{o:Oper}{a:Act}{Q:Exit->Act->aj->Prop}(hgd:o.guard=none)(hd:∀c,o.op≠ .defer c)(hr:(execOp a.eval o).run P w= .ok (.value v) w')
 (h:wpListIn (Fence.wide.inRound l) n P ops Q rest (a.put o.dst v) w'):wpListIn (Fence.wide.inRound l) n P ops Q (o::rest) a w:=by
 have hw:Region.wanted o (yielded ops a.tmps)=true:=by simp[Region.wanted,hgd]
 simp only[wpListIn,hw,if_true];refine⟨λf _=>trivial,?_⟩;rw[Oper.semAt_eq _ _ _ hd,hr];exact h
def qz {l n:Nat}{ops:Array Oper}{rest:List Oper}{o:Oper}{a:Act}{Q:Exit->Act->aj->Prop}(hgd:o.guard=none)(s x:Operand)(t:TypeId)
 (ho:o.op= .call {callee:= .builtin .append,args:= #[s,x],argTypes:= #[t,t]})
 (M:aN)(base:Nat)(e:TypeId)(i:TypeInfo)(z:an)(bytes:Nat)(ht:P.underlying t=some (.slice e))(hi:P.info? e=some i)(hz:i.zero=some z)
 (hsize:i.size=au.size α)(hby:i.bytes=bytes)(hzs:z.cells.size=au.size α)(hsz:0<au.size α)
 (v:an)(xs:List α)(hs:a.eval s=v)(hacc:aK M base e w v xs)
 (F:aN)(sv:an)(cs:List an)(y:α)(hx:a.eval x=sv)(hr:cA F w (au.size α) sv 1 cs)(hy:au.rep (bg v M) w cs y)
 (h63:xs.length+1<=maxLen)(hbytes:(xs.length+1)*bytes<=140737488355328)(hbase:base<=w.heap.size)
 (h:∀a' c' w',aK M base e w' (xL a' (xs.length+1) c') (xs++[y])->Ev (bg v M) w (bg (xL a' (xs.length+1) c') M) w'->Below base w w'->wpListIn (Fence.wide.inRound l) n P ops Q rest (a.put o.dst (xL a' (xs.length+1) c')) w'):wpListIn (Fence.wide.inRound l) n P ops Q (o::rest) a w:=by
 obtain⟨css,h1,h2,h3⟩:=hacc;obtain⟨v',w',mO,k1,k2,k3⟩:=gu (P:=P) w base t o.type e i z (au.size α) bytes ht hi hz hsize hby hzs hsz v xs.length css.flatten h1 sv 1 cs hr (au.flat hy) h63 hbytes hbase;obtain⟨a',c',rfl,_,_⟩:=fM k1;refine Ha hgd (λc hc=>by rw[ho]at hc;cases hc) (v:=xL a' (xs.length+1) c') (w':=w') ?_ (h a' c' w' (aK.snoc h2 h3 hy k1 k2 k3) (Ev.grown k2 k3) ((Qbg _ w).grown k2 hbase λk hk=>(h1.lt k hk).1));unfold execOp;simp only[ho,resolve,invoke,builtin,Sem.run_bind,Sem.run_pure,Result.andThen_ok,List.map_toArray,List.map_cons,List.map_nil,hs,hx,mO]
end
theorem aK.K3 {α:Type} [au α]{S:aN}{xs:List α}(h:aK xF base e w v xs)(ho:ai S w w')(hb:∀i,S i->i<base)(hS:∀{M M':aN}{cs:List an}{x:α},au.rep M w cs x->au.rep M' w' cs x):aK xF base e w' v xs:=by
 obtain⟨css,k1,k2,k3⟩:=h;refine⟨css,⟨k1.1,?_⟩,k2,λi cs x hc hx=>hS (k3 i cs x hc hx)⟩;rcases k1.2 with h0|⟨g,cap,cur,e1,e2,e3,e4⟩
 .exact .inl h0
 .exact .inr ⟨g,cap,cur,e1,e2,ho.at_ e3 (λh=>by have:=hb _ h;omega),e4⟩
section
variable {P:Program}
def DI {l n:Nat}{ops:Array Oper}{o:Oper}{a:Act}{K:Act->aj->Prop}{Q:Exit->Act->aj->Prop}{E:Prop}(hgd:o.guard=none)(hd:∀c,o.op≠ .defer c)(hr:(execOp a.eval o).run P w= .ok (.value v) w')(h:K (a.put o.dst v) w'):
 if Region.wanted o (yielded ops a.tmps)=true then Oper.wpIn (Fence.wide.inRound l) n P o a w K Q else E:=by
 have hw:Region.wanted o (yielded ops a.tmps)=true:=by simp[Region.wanted,hgd]
 rw[if_pos hw];refine⟨λf _=>trivial,?_⟩;rw[Oper.semAt_eq _ _ _ hd,hr];exact h
variable {α:Type} [au α]
def iT {l n:Nat}{ops:Array Oper}{o:Oper}{a:Act}{K:Act->aj->Prop}{Q:Exit->Act->aj->Prop}{E:Prop}(hgd:o.guard=none)(s x:Operand)(t:TypeId)
 (ho:o.op= .call {callee:= .builtin .append,args:= #[s,x],argTypes:= #[t,t]})
 (M:aN)(base:Nat)(e:TypeId)(i:TypeInfo)(z:an)(bytes:Nat)(ht:P.underlying t=some (.slice e))(hi:P.info? e=some i)(hz:i.zero=some z)
 (hsize:i.size=au.size α)(hby:i.bytes=bytes)(hzs:z.cells.size=au.size α)(hsz:0<au.size α)
 (v:an)(xs:List α)(hs:a.eval s=v)(hacc:aK M base e w v xs)
 (sv:an)(ys:List α)(hx:a.eval x=sv)(hr:ab (bg v M) w sv ys)
 (h63:xs.length+ys.length<=maxLen)(hbytes:(xs.length+ys.length)*bytes<=140737488355328)(hbase:base<=w.heap.size)
 (h:∀a' c' w',aK M base e w' (xL a' (xs.length+ys.length) c') (xs++ys)->Ev (bg v M) w (bg (xL a' (xs.length+ys.length) c') M) w'->Below base w w'->K (a.put o.dst (xL a' (xs.length+ys.length) c')) w'):
 if Region.wanted o (yielded ops a.tmps)=true then Oper.wpIn (Fence.wide.inRound l) n P o a w K Q else E:=by
 obtain⟨css,h1,h2,h3⟩:=hacc;obtain⟨Na,k1,k2,k3⟩:=hr;have Fo:∀u∈Na.flatten,u.oneCell'=true:=λu hu=>by
  obtain⟨cs,bJ,hu⟩:=List.mem_flatten.1 hu;obtain⟨i,hi⟩:=List.getElem?_of_mem bJ;have ze:i<ys.length:=by rw[<-k2];exact(Qad.1 hi).1
  exact au.flat (k3 i cs _ hi (Qac ze)) u hu
 obtain⟨v',w',mO,j1,j2,j3⟩:=gu (P:=P) w base t o.type e i z (au.size α) bytes ht hi hz hsize hby hzs hsz v xs.length css.flatten h1 sv ys.length Na.flatten k1 Fo h63 hbytes hbase;obtain⟨a',c',rfl,_,_⟩:=fM j1;refine DI hgd (λc hc=>by rw[ho]at hc;cases hc) (v:=xL a' (xs.length+ys.length) c') (w':=w') ?_ (h a' c' w' (aK.app h2 h3 k2 k3 j1 j2 j3) (Ev.grown j2 j3) ((Qbg _ w).grown j2 hbase λk hk=>(h1.lt k hk).1));unfold execOp;simp only[ho,resolve,invoke,builtin,Sem.run_bind,Sem.run_pure,Result.andThen_ok,List.map_toArray,List.map_cons,List.map_nil,hs,hx,mO]
end
def fK {α:Type}(K:α->an)(p:α×an×Nat):MapEntry:=⟨K p.1,p.2.1,p.2.2⟩
theorem mD {α:Type} [DecidableEq α](K:α->an)(td:TypeDesc)(hK:∀x y,Instr.sameNow td (K x) (K y)=some (decide (x=y)))(x:α):∀(es:List (α×an×Nat))(i:Nat),Instr.findNow td (K x) (es.map (fK K)) i=some ((es.findIdx? λp=>decide (x=p.1)).map λj=>(i+j,(es[j]?.map (·.2.1)).getD undef))
 |[],i=>by simp[Instr.findNow]
 |p::r,i=>by
  simp only[List.map_cons,Instr.findNow];rw[show(fK K p).key=K p.1 from rfl,hK];by_cases h:x=p.1
  .simp[h,List.findIdx?_cons,fK]
  .simp only[h,decide_false];rw[mD K td hK x r (i+1)];simp only[List.findIdx?_cons,h,decide_false,Bool.false_eq_true,if_false,Option.map_map];congr 2;funext j;simp;omega
def kR(x y:ByteArray):Instr.sameNow .string (.string x) (.string y)=some (decide (x=y)):=by
 simp only[Instr.sameNow];congr 1;cases x with
 |mk a=>
  cases y with
  |mk b=>
   have h1:((⟨a⟩:ByteArray)==⟨b⟩)=(a==b):=by first|rfl|simp[BEq.beq]
   rw[h1,Bool.eq_iff_iff];simp
def oY(x y:Int):Instr.sameNow (.int .i64) (xI x) (xI y)=some (decide (x=y)):=by
 simp only[Instr.sameNow,if_true];congr 1
section
variable {α:Type} [DecidableEq α](K:α->an)(td:TypeDesc)(hK:∀x y,Instr.sameNow td (K x) (K y)=some (decide (x=y)))
variable {P:Program}{kt et mt:TypeId}{w:aj}{b:Nat}{es:List (α×an×Nat)}{clk:Nat}
def aZ(es:List (α×an×Nat))(x:α):Option an:=(es.find? λp=>decide (x=p.1)).map (·.2.1)
def eO(x:α)(es:List (α×an×Nat)):((es.findIdx? λp=>decide (x=p.1)).map λj=>(es[j]?.map (·.2.1)).getD undef)=aZ es x:=by
 unfold aZ;induction es with
 |nil=>rfl
 |cons p r ih=>
  by_cases h:x=p.1
  .simp[List.findIdx?_cons,h]
  .simp only[List.findIdx?_cons,h,decide_false,Bool.false_eq_true,if_false,List.find?_cons,Option.map_map];rw[<-ih];congr 1
def bD(w:aj)(b:Nat)(es:List (α×an×Nat))(clk:Nat):Prop:=bR w b (.map (es.map (fK K)).toArray clk)
variable(hm:P.underlying mt=some (.map kt et))(hk:P.underlying kt=some td)(hchk:∀(e:Bool)(x:α)(w:aj),(Instr.checkKey e 10000 kt (K x)).run P w= .ok () w)
include hK hm hk hchk
theorem bD.lookup(h:bD K w b es clk)(x:α)(v:an)(hv:aZ es x=some v):(Instr.lookup mt (.map (some b)) (K x) false).run P w= .ok v w:=by
 have hf:(Instr.findKey kt (K x) (es.map (fK K)).toArray.toList).run P w= .ok ((es.findIdx? λp=>decide (x=p.1)).map λj=>(0+j,(es[j]?.map (·.2.1)).getD undef)) w:=by
  simp only[Instr.findKey,Sem.run_bind,run_underlying hk,Result.andThen_ok];rw[mD K td hK x es 0];rfl
 simp only[Instr.lookup,Sem.run_bind,run_underlying hm,Result.andThen_ok,MapKept.run_getObj_map h,Sem.run_pure,hchk];rw[hf];have h2:=eO x es;rw[hv]at h2;cases hq:es.findIdx? λp=>decide (x=p.1)with
 |none=>rw[hq]at h2;cases h2
 |some j=>
  rw[hq]at h2;simp only[Option.map_some,Qcf]at h2;simp[h2]
theorem bD.SB(h:bD K w b es clk)(x:α)(z:an)(hz:(zeroValue et).run P w= .ok z w)(hv:aZ es x=none):(Instr.lookup mt (.map (some b)) (K x) false).run P w= .ok z w:=by
 have hf:(Instr.findKey kt (K x) (es.map (fK K)).toArray.toList).run P w= .ok ((es.findIdx? λp=>decide (x=p.1)).map λj=>(0+j,(es[j]?.map (·.2.1)).getD undef)) w:=by
  simp only[Instr.findKey,Sem.run_bind,run_underlying hk,Result.andThen_ok];rw[mD K td hK x es 0];rfl
 simp only[Instr.lookup,Sem.run_bind,run_underlying hm,Result.andThen_ok,MapKept.run_getObj_map h,Sem.run_pure,hchk];rw[hf];have h2:=eO x es;rw[hv]at h2;cases hq:es.findIdx? λp=>decide (x=p.1)with
 |some j=>rw[hq]at h2;cases h2
 |none=>simp[hz]
theorem bD.insert(h:bD K w b es clk)(x:α)(v:an)(hv:aZ es x=none):(Instr.mapUpdate mt (.map (some b)) (K x) v).run P w= .ok () (w.putObj b (.map ((es++[(x,v,clk)]).map (fK K)).toArray (clk+1)))/\bD K (w.putObj b (.map ((es++[(x,v,clk)]).map (fK K)).toArray (clk+1))) b (es++[(x,v,clk)]) (clk+1):=by
 have hf:(Instr.findKey kt (K x) (es.map (fK K)).toArray.toList).run P w= .ok ((es.findIdx? λp=>decide (x=p.1)).map λj=>(0+j,(es[j]?.map (·.2.1)).getD undef)) w:=by
  simp only[Instr.findKey,Sem.run_bind,run_underlying hk,Result.andThen_ok];rw[mD K td hK x es 0];rfl
 refine⟨?_,World.putObj_heap_same (Qaa.1 h).1⟩;simp only[Instr.mapUpdate,Sem.run_bind,run_underlying hm,Result.andThen_ok,MapKept.run_getObj_map h,Sem.run_pure,hchk];rw[hf];have h2:=eO x es;rw[hv]at h2;cases hq:es.findIdx? λp=>decide (x=p.1)with
 |some j=>rw[hq]at h2;cases h2
 |none=>
  have hh:bR w b (.map (es.map (fK K)).toArray clk):=h;simp[setObj,Sem.run,World.putObj,hh,fK]
end
section
variable {α:Type} [DecidableEq α](K:α->an)(td:TypeDesc)
variable {P:Program}{kt et mt:TypeId}{w:aj}{b:Nat}{es:List (α×an×Nat)}{clk:Nat}
def lS(P:Program)(kt:TypeId):Prop:=∀(x:α)(es:List (α×an×Nat))(w:aj),(Instr.findKey kt (K x) (es.map (fK K)).toArray.toList).run P w= .ok ((es.findIdx? λp=>decide (x=p.1)).map λj=>(0+j,(es[j]?.map (·.2.1)).getD undef)) w
def AK(hK:∀x y,Instr.sameNow td (K x) (K y)=some (decide (x=y)))(hk:P.underlying kt=some td):lS K P kt:=λx es w=>by
 simp only[Instr.findKey,Sem.run_bind,run_underlying hk,Result.andThen_ok];rw[mD K td hK x es 0];rfl
theorem AL(hE:∀(x y:α)(w:aj),(Op.equal kt (K x) (K y)).run P w= .ok (decide (x=y)) w)(x:α)(w:aj):∀(es:List (α×an×Nat))(i:Nat),(Instr.findAsking kt (K x) (es.map (fK K)) i).run P w= .ok ((es.findIdx? λp=>decide (x=p.1)).map λj=>(i+j,(es[j]?.map (·.2.1)).getD undef)) w
 |[],i=>by simp[Instr.findAsking]
 |p::r,i=>by
  simp only[List.map_cons,Instr.findAsking,Sem.run_bind];rw[show(fK K p).key=K p.1 from rfl,hE];simp only[Result.andThen_ok];by_cases h:x=p.1
  .simp[h,List.findIdx?_cons,fK]
  .simp only[h,decide_false,Bool.false_eq_true,if_false];rw[AL hE x w r (i+1)];simp only[List.findIdx?_cons,h,decide_false,Bool.false_eq_true,if_false,Option.map_map];congr 2;funext j;simp;omega
def Mi(hN:∀x y,Instr.sameNow td (K x) (K y)=none)(hk:P.underlying kt=some td)(hE:∀(x y:α)(w:aj),(Op.equal kt (K x) (K y)).run P w= .ok (decide (x=y)) w):lS K P kt:=λx es w=>by
 simp only[Instr.findKey,Sem.run_bind,run_underlying hk,Result.andThen_ok];cases es with
 |nil=>simp[Instr.findNow]
 |cons p r=>
  simp only[List.map_cons,Instr.findNow];rw[show(fK K p).key=K p.1 from rfl,hN];have h:=AL K hE x w (p::r) 0;simp only[List.map_cons]at h;exact h
variable(hm:P.underlying mt=some (.map kt et))(hF:lS K P kt)(hchk:∀(e:Bool)(x:α)(w:aj),(Instr.checkKey e 10000 kt (K x)).run P w= .ok () w)
include hm hF hchk
theorem bD.Er(h:bD K w b es clk)(x:α)(v:an)(hv:aZ es x=some v):(Instr.lookup mt (.map (some b)) (K x) true).run P w= .ok (.tuple #[v,xB true]) w:=by
 have hf:=hF x es w;simp only[Instr.lookup,Sem.run_bind,run_underlying hm,Result.andThen_ok,MapKept.run_getObj_map h,Sem.run_pure,hchk];rw[hf];have h2:=eO x es;rw[hv]at h2;cases hq:es.findIdx? λp=>decide (x=p.1)with
 |none=>rw[hq]at h2;cases h2
 |some j=>
  rw[hq]at h2;simp only[Option.map_some,Qcf]at h2;simp[h2]
theorem bD.ye(h:bD K w b es clk)(x:α)(v:an)(hv:aZ es x=some v):(Instr.lookup mt (.map (some b)) (K x) false).run P w= .ok v w:=by
 have hf:=hF x es w;simp only[Instr.lookup,Sem.run_bind,run_underlying hm,Result.andThen_ok,MapKept.run_getObj_map h,Sem.run_pure,hchk];rw[hf];have h2:=eO x es;rw[hv]at h2;cases hq:es.findIdx? λp=>decide (x=p.1)with
 |none=>rw[hq]at h2;cases h2
 |some j=>
  rw[hq]at h2;simp only[Option.map_some,Qcf]at h2;simp[h2]
theorem bD.Zx(h:bD K w b es clk)(x:α)(z:an)(hz:(zeroValue et).run P w= .ok z w)(hv:aZ es x=none):(Instr.lookup mt (.map (some b)) (K x) true).run P w= .ok (.tuple #[z,xB false]) w:=by
 have hf:=hF x es w;simp only[Instr.lookup,Sem.run_bind,run_underlying hm,Result.andThen_ok,MapKept.run_getObj_map h,Sem.run_pure,hchk];rw[hf];have h2:=eO x es;rw[hv]at h2;cases hq:es.findIdx? λp=>decide (x=p.1)with
 |some j=>rw[hq]at h2;cases h2
 |none=>simp[hz]
theorem bD.SJ(h:bD K w b es clk)(x:α)(v:an)(hv:aZ es x=none):∃w',(Instr.mapUpdate mt (.map (some b)) (K x) v).run P w= .ok () w'/\bD K w' b (es++[(x,v,clk)]) (clk+1)/\ai (λi=>i=b) w w':=by
 have hf:=hF x es w;refine⟨w.putObj b (.map ((es++[(x,v,clk)]).map (fK K)).toArray (clk+1)),?_,World.putObj_heap_same (Qaa.1 h).1,(ai.refl (λi=>i=b) w).putObj (.inl rfl) _⟩;simp only[Instr.mapUpdate,Sem.run_bind,run_underlying hm,Result.andThen_ok,MapKept.run_getObj_map h,Sem.run_pure,hchk];rw[hf];have h2:=eO x es;rw[hv]at h2;cases hq:es.findIdx? λp=>decide (x=p.1)with
 |some j=>rw[hq]at h2;cases h2
 |none=>
  have hh:bR w b (.map (es.map (fK K)).toArray clk):=h;simp[setObj,Sem.run,World.putObj,hh,fK]
end
def uu {α:Type} [DecidableEq α]{es:List (α×an×Nat)}{x:α}{clk:Nat}(y:α)(h:aZ es x=none):aZ (es++[(x,v,clk)]) y=if y=x then some v else aZ es y:=by
 unfold aZ at h⊢;rw[List.find?_append];by_cases e:y=x
 .subst e;rw[Option.map_eq_none_iff]at h;rw[h];simp
 .cases hq:es.find? λp=>decide (y=p.1)<;>simp[e]
end
section
open Go.RowKit
open Go.ChangeMaps (setBlock)
section
variable {α:Type}(K:α->an){P:Program}{w:aj}{b r clk:Nat}{es V:List (α×an×Nat)}
structure fq(w:aj)(b:Nat)(es:List (α×an×Nat))(clk:Nat):Prop where
 is_:bD K w b es clk
 born:(es.map (·.2.2)).Nodup
 old:∀p∈es,p.2.2<clk
 keys:(es.map (·.1)).Nodup
def IterM(w:aj)(r b:Nat)(V:List (α×an×Nat))(clk:Nat):Prop:=w.heap[r]? =some (.mapIter (some b) clk (V.map (·.2.2)).toArray clk)
def Mj {e:MapEntry}(h:e∈(leftOf (es.map (fK K)).toArray (V.map (·.2.2)).toArray).toList):∃p,p∈es/\p.2.2∉V.map (·.2.2)/\e=fK K p:=by
 unfold leftOf at h;simp only[Array.mem_toList_iff,Array.mem_filter,List.mem_toArray,List.mem_map]at h;obtain⟨⟨p,hp,rfl⟩,h2⟩:=h;exact⟨p,hp,by simpa [fK]using h2,rfl⟩
def Es(h:(leftOf (es.map (fK K)).toArray (V.map (·.2.2)).toArray).size=0):∀p∈es,p.2.2∈V.map (·.2.2):=by
 intro p hp;have h1:leftOf (es.map (fK K)).toArray (V.map (·.2.2)).toArray= #[]:=Array.eq_empty_of_size_eq_zero h;unfold leftOf at h1;rw[Array.filter_eq_empty_iff]at h1;have:=h1 (fK K p) (by simp;exact⟨p.1,p.2.1,p.2.2,hp,rfl⟩);simpa [fK]using this
theorem VC {α β:Type}{f:α->β}:∀{l:List α},(l.map f).Nodup->∀{x y:α},x∈l->y∈l->f x=f y->x=y
 |[],_,_,_,h,_,_=>by simp at h
 |a::r,hn,x,y,hx,hy,he=>by
  rw[List.map_cons,List.nodup_cons]at hn;rcases Qdf.1 hx with h1|h1<;>rcases Qdf.1 hy with h2|h2
  .rw[h1,h2]
  .exact absurd (List.mem_map.2 ⟨y,h2,by rw[<-he,h1]⟩) hn.1
  .exact absurd (List.mem_map.2 ⟨x,h1,by rw[he,h2]⟩) hn.1
  .exact VC hn.2 h1 h2 he
theorem Ip {α β:Type}(f:α->β):∀{l:List α},(l.map f).Nodup->l.Nodup
 |[],_=>List.nodup_nil
 |a::r,hn=>by
  rw[List.map_cons,List.nodup_cons]at hn;exact List.nodup_cons.2 ⟨λh=>hn.1 (List.mem_map.2 ⟨a,h,rfl⟩),Ip f hn.2⟩
def Ml {w:aj}{r:Nat}(o:Obj):ai (λi=>i=r) w (setBlock w r o):=
 ⟨rfl,rfl,rfl,by simp[setBlock],λi _ hi=>by
   have h:¬r=i:=λe=>hi e.symm;simp[setBlock,Array.getElem?_setIfInBounds,h]⟩
def Ke {w:aj}{r:Nat}(o:Obj)(hr:r<w.heap.size):(setBlock w r o).heap[r]? =some o:=by simp[setBlock,Array.getElem?_setIfInBounds,hr]
theorem fq.lt(h:fq K w b es clk):b<w.heap.size:=(Qaa.1 h.is_).1
theorem fq.same(h:fq K w b es clk)(he:w'.heap[b]? =w.heap[b]?):fq K w' b es clk:=⟨he.trans h.is_,h.born,h.old,h.keys⟩
theorem fq.step(h:fq K w b es clk)(hit:IterM w r b V clk)(hV:∀p∈V,p∈es)(hn:(V.map (·.2.2)).Nodup)(ty:TypeId):
 (V.Perm es/\(Instr.next (xP r) false ty).run P w= .ok (.tuple #[xB false]) w)\/
 ∃p w1,p∈es/\p∉V/\(Instr.next (xP r) false ty).run P w= .ok (.tuple #[xB true,K p.1,p.2.1]) w1/\
  IterM w1 r b (V++[p]) clk/\((V++[p]).map (·.2.2)).Nodup/\fq K w1 b es clk/\ai (λi=>i=r) w w1/\(Instr.entry (xP r)).run P w1= .ok (.tuple #[K p.1,p.2.1]) w1:=by
 have hb:w.heap[b]? =some (.map (es.map (fK K)).toArray clk):=h.is_;have TL:=hit;unfold IterM at TL;have hrb:r≠b:=by rintro rfl;rw[TL]at hb;simp at hb
 have Nv:r<w.heap.size:=(Qaa.1 TL).1;rcases run_next_at (P:=P) w ty r b clk clk _ _ clk TL hb (λx hx=>by
  simp only[List.mem_map]at hx;obtain⟨p,hp,rfl⟩:=hx;exact h.old p hp) bN with⟨h0,mO⟩|⟨e,he,w1,hw1,mO⟩
 .refine .inl ⟨?_,mO⟩;have h1:=Es K h0;have hVn:V.Nodup:=Ip _ hn;have hEn:es.Nodup:=Ip _ h.born;refine(List.perm_ext_iff_of_nodup hVn hEn).2 λp=>⟨hV p,λhp=> ?_⟩;obtain⟨q,hq,hqp⟩:=List.mem_map.1 (h1 p hp);have:q=p:=VC h.born (hV q hq) hp hqp;rw[<-this];exact hq
 .obtain⟨p,hp,YL,rfl⟩:=Mj K he;have qbf:w1.heap=w.heap:=by rcases hw1 with rfl|rfl<;>rfl
  have qei:ai (λi=>i=r) w w1:=by
   rcases hw1 with rfl|rfl
   .exact ai.refl _ _
   .exact(ai.refl _ _).drew
  have CE:IterM (setBlock w1 r (.mapIter (some b) clk ((V.map (·.2.2)).toArray.push p.2.2) clk)) r b (V++[p]) clk:=by
   unfold IterM;rw[Ke _ (by rw[qbf];exact Nv)];simp
  have jx:ai (λi=>i=r) w (setBlock w1 r (.mapIter (some b) clk ((V.map (·.2.2)).toArray.push p.2.2) clk)):=qei.trans (Ml _);have fu:=h.same K (jx.block b h.lt (λe=>hrb e.symm));refine .inr ⟨p,_,hp,λhm=>YL (List.mem_map.2 ⟨p,hm,rfl⟩),mO,CE,?_,fu,jx,?_⟩
  .rw[List.map_append,List.map_cons,List.map_nil,List.nodup_append];exact⟨hn,by simp,λa ha c hc=>by simp at hc;subst hc;intro e;subst e;exact YL ha⟩
  .have aF:(setBlock w1 r (.mapIter (some b) clk ((V.map (·.2.2)).toArray.push p.2.2) clk)).heap[b]? =some (.map (es.map (fK K)).toArray clk):=fu.is_;have:=run_entry_at (P:=P) _ r b clk (V.map (·.2.2)).toArray _ clk (fK K p) (Ke _ (by rw[qbf];exact Nv)) aF (by simp;exact⟨p.1,p.2.1,p.2.2,hp,rfl⟩) (by
    have e:(es.map (fK K)).toArray.toList.map (·.born)=es.map (·.2.2):=by simp[fK,Function.comp_def]
    rw[e];exact h.born);exact this
theorem mG {β:Type} [DecidableEq β]:∀(D xs:List β),xs.Nodup->(∀x∈xs,x∈D)->xs.length<=D.length
 |[],xs,_,h=>by
  cases xs with
  |nil=>simp
  |cons a r=>have:=h a (by simp);simp at this
 |d::D,xs,hn,h=>by
  have h1:=mG D (xs.erase d) (hn.erase _) λx hx=>by
   have h2:=h x (List.mem_of_mem_erase hx);have h3:x≠d:=λe=>by
    subst e;exact(List.Nodup.not_mem_erase hn) hx
   simpa [h3]using h2
  have h4:=List.length_erase (a:=d) (l:=xs);simp only[Qcc];split at h4<;>omega
def iG(hn:(V.map (·.2.2)).Nodup)(h:∀p∈V,p∈es):V.length<=es.length:=by
 have:=mG (es.map (·.2.2)) (V.map (·.2.2)) hn (λx hx=>by
  obtain⟨p,hp,rfl⟩:=List.mem_map.1 hx;exact List.mem_map.2 ⟨p,h p hp,rfl⟩);simpa using this
end
section
variable {α:Type} [DecidableEq α]{K:α->an}{P:Program}{w:aj}{b clk:Nat}{es:List (α×an×Nat)}{mt kt et:TypeId}
omit [DecidableEq α] in
def dH {x:α}:aZ es x=none↔x∉es.map (·.1):=by
 unfold aZ;rw[Option.map_eq_none_iff,List.find?_eq_none];constructor
 .intro h hm;obtain⟨p,hp,rfl⟩:=List.mem_map.1 hm;simpa using h p hp
 .intro h p hp;have:x≠p.1:=λe=>h (e▸List.mem_map_of_mem hp);simpa using this
def mH(hn:(es.map (·.1)).Nodup){p:α×an×Nat}(hp:p∈es):aZ es p.1=some p.2.1:=by
 unfold aZ;cases hf:es.find? (λq=>decide (p.1=q.1))with
 |none=>have:=List.find?_eq_none.1 hf p hp;simp at this
 |some q=>
  have h1:p.1=q.1:=by simpa using List.find?_some hf
  have:=VC hn hp (List.mem_of_find?_eq_some hf) h1;rw[this];rfl
def mI {x:α}(h:aZ es x=some v):∃p∈es,p.1=x/\p.2.1=v:=by
 unfold aZ at h;obtain⟨p,hp,rfl⟩:=Option.map_eq_some_iff.1 h;have h1:x=p.1:=by simpa using List.find?_some hp
 exact⟨p,List.mem_of_find?_eq_some hp,h1.symm,rfl⟩
def Et {β:Type}{l:List β}(hj:j<l.length){y:β}(h:l[j]=y):l.set j y=l:=by
 apply List.ext_getElem?;intro i;rw[List.getElem?_set];by_cases e:j=i
 .subst e;simp[hj,h]
 .simp[e]
theorem fq.put(hm:P.underlying mt=some (.map kt et))(hF:lS K P kt)(hchk:∀(e:Bool)(x:α)(w:aj),(Instr.checkKey e 10000 kt (K x)).run P w= .ok () w)(fJ:∀x w,(Instr.keyThatStays (K x) (K x)).run P w= .ok (K x) w)
 (h:fq K w b es clk)(x:α)(v:an):∃w' TM Jw,(Instr.mapUpdate mt (.map (some b)) (K x) v).run P w= .ok () w'/\fq K w' b TM Jw/\(∀y,aZ TM y=if y=x then some v else aZ es y)/\TM.length<=es.length+1/\ai (λi=>i=b) w w':=by
 cases hv:aZ es x with
 |none=>
  obtain⟨w',h1,h2,h3⟩:=bD.SJ K hm hF hchk h.is_ x v hv;refine⟨w',_,_,h1,⟨h2,?_,λp hp=> ?_,?_⟩,λy=>uu y hv,by simp,h3⟩
  .rw[List.map_append,List.nodup_append];refine⟨h.born,by simp,λa ha c hc=> ?_⟩;obtain⟨p,hp,rfl⟩:=List.mem_map.1 ha;have:=h.old p hp;simp at hc;omega
  .rcases Qch.1 hp with hp|hp
   .have:=h.old p hp;omega
   .simp at hp;subst hp;simp
  .rw[List.map_append,List.nodup_append];refine⟨h.keys,by simp,λa ha c hc=> ?_⟩;simp at hc;subst hc;exactλe=>dH.1 hv (e▸ha)
 |some v0=>
  have hb:bR w b (.map (es.map (fK K)).toArray clk):=h.is_;cases hq:es.findIdx? λp=>decide (x=p.1)with
  |none=>
   have h2:=eO x es;rw[hq,hv]at h2;cases h2
  |some j=>
   obtain⟨hj,hj2,_⟩:=List.findIdx?_eq_some_iff_getElem.1 hq;have hxj:(es[j]).1=x:=(show x=(es[j]).1 by simpa using hj2).symm;have hky:(((es.map (fK K)).toArray[j]?).map (·.key)).getD (K x)=K x:=by
    simp[hj,fK,hxj]
   have mO:(Instr.mapUpdate mt (.map (some b)) (K x) v).run P w= .ok () (w.putObj b (.map ((es.map (fK K)).toArray.modify j λe=>{e with key:=K x,val:=v}) clk)):=by
    simp only[Instr.mapUpdate,Sem.run_bind,run_underlying hm,Result.andThen_ok,MapKept.run_getObj_map hb,Sem.run_pure,hchk];rw[hF x es w,hq];simp only[Option.map_some,Nat.zero_add,Sem.run_bind,Result.andThen_ok];rw[hky,fJ];simp[setObj,Sem.run,World.putObj,hb]
   have WB:(es.map (fK K)).toArray.modify j (λe=>{e with key:=K x,val:=v})=((es.set j (x,v,(es[j]).2.2)).map (fK K)).toArray:=by
    apply Array.ext_getElem?;intro i;rw[Array.getElem?_modify];by_cases hi:j=i
    .subst hi;simp[hj,fK]
    .rw[if_neg hi];simp[hi]
   have oF:(es.set j (x,v,(es[j]).2.2)).map (·.1)=es.map (·.1):=by
    rw[List.map_set];exact Et (by simpa using hj) (by simp[hxj])
   have ou:(es.set j (x,v,(es[j]).2.2)).map (·.2.2)=es.map (·.2.2):=by
    rw[List.map_set];exact Et (by simpa using hj) (by simp)
   have Nc:((es.set j (x,v,(es[j]).2.2)).map (·.1)).Nodup:=by rw[oF];exact h.keys
   refine⟨_,es.set j (x,v,(es[j]).2.2),clk,mO,⟨?_,by rw[ou];exact h.born,λp hp=> ?_,Nc⟩,λy=> ?_,by simp,(ai.refl (λi=>i=b) w).putObj (.inl rfl) _⟩
   .rw[WB];exact World.putObj_heap_same (Qaa.1 hb).1
   .rcases List.mem_or_eq_of_mem_set hp with hp|rfl
    .exact h.old p hp
    .have:=h.old _ (List.getElem_mem hj);exact this
   .by_cases hy:y=x
    .rw[if_pos hy,hy];exact mH Nc (p:=(x,v,(es[j]).2.2)) (List.mem_set hj _)
    .rw[if_neg hy];cases hu:aZ es y with
     |none=>rw[dH,oF];exact dH.1 hu
     |some u=>
      obtain⟨p,hp,rfl,rfl⟩:=mI hu;obtain⟨i,hi⟩:=List.getElem?_of_mem hp;have hij:j≠i:=λe=>by subst e;rw[Qac hj]at hi;cases hi;exact hy hxj
      refine mH Nc (Qaf (i:=i) ?_);rw[List.getElem?_set_ne hij];exact hi
end
end
section
open Go.RowKit
end
end Go.Proofs.YtepaofffbkfodaaGreatDoor
