/- A part; no condition. -/
import Derived.Test.YtpjdjlnknfmfkaaGreatDoorM01
import Derived.RangeFuncCalls
set_option linter.all false
set_option maxHeartbeats 8000000
set_option maxRecDepth 100000
namespace Go.Proofs.YtpjdjlnknfmfkaaGreatDoor
open Tryz
variable{r i k base j:Nat}{w w' w0 A:bq}{o:Obj}{v:bt}{e:TypeId}{id:Int}
section
open Go.RowKit
def bh.putObj {S:bY}(h:bh S w w')(hr:S r\/w<=r)(o:Obj):bh S w (w'.putObj r o):=
 ⟨h.os,h.tape,h.output,by simpa using h.size,λi hi hS=>(World.putObj_heap_other (by rintro rfl;rcases hr with hr|hr;exact hS hr;omega)).trans (h.block i hi hS)⟩
def bh.at_ {S:bY}(h:bh S w w')(hi:cX w i o)(hS:¬S i):w'.heap[i]? =some o:=
 (h.block i (ab.1 hi).1 hS).trans hi
def Y8(w:bq)(k:Nat):Nat->Prop:=λi=>↑w+2<=i/\i<↑w+2+k
def St(w:bq)(k:Nat):Nat->Prop:=λi=>w<=i/\i<↑w+2+k
def NF(C:bY)(w:bq)(k:Nat):Nat->Prop:=λi=>C i\/↑w+2+k<=i
def Y9(S:bY)(w:bq):Nat->Prop:=λi=>S i\/i=[w]
def LG {β:Type}(P:Program)(gf:Nat)(lb:Array bt)(w:bq)(S:bY)(k:Nat)(s0:β)(we:β->Array bt->β->bq->Prop)(End:β->Prop):Prop:=
 ∀(J:β->bq->Prop)(Jx:bq->Prop)(W:bq),W.heap.size=↑w+2->bC w W->
  (∀s A B,J s A->bh (Y8 w k) A B->J s B)->(∀A B,Jx A->bh (Y8 w k) A B->Jx B)->
  (∀s args s' A,J s A->we s args s' A->YieldAt Fence.wide 0 P [w] args A λe B=>(e=xR true/\J s' B/\bh (Y9 S w) A B)\/(e=xR false/\Jx B))->
  J s0 W->CallsIn Fence.wide 0 P gf (#[.func (.yield [w]) #[] #[]]++lb) W λe B=>(∃v,e=xR v)/\((∃s,End s/\J s B)\/Jx B)
def Kb {β:Type}(S:bY)(I:β->bq->Prop)(Ix:Code->bq->Prop)(s:β)(W:bq):Exit->Act->bq->Prop
 | .normal,_,B=>bh (S) W B/\I s B
 | .ret,_,B=>bh (S) W B/\Ix .ret B
 | .exit id,_,B=>bh (S) W B/\Ix (.exit id) B
 | .goto t,_,B=>bh (S) W B/\Ix (.goto t) B
 | .panic _,_,_=>False
 | .outgrown,_,_=>False
def Vq(w:bq):Deferred:={target:= .collected w,args:= #[]}
def oI {β:Type}{P:Program}{g:Operand}{ps:Array Tmp}{assign body:Code}{Q:Exit->Act->bq->Prop}{a:Act}{gf:Nat}{lb:Array bt}
 (hg:a.eval g= .func (.func gf) #[] lb)(eg:∀args w,(callFunc gf args).run P w= .ok (.enter gf args) w)
 (S:bY)(k:Nat)(s0:β)(we:β->Array bt->β->bq->Prop)(End:β->Prop)(Ra:LG P gf lb w S k s0 we End)(hps:∀s args s' W,we s args s' W->args.size=ps.size)(hS:∀i,S i->i<w.heap.size\/↑w+2<=i)
 (I:β->bq->Prop)(Ix:Code->bq->Prop)(hI:∀s A B,I s A->bh (St w k) A B->I s B)(WQ:∀c A B,Ix c A->bh (St w k) A B->Ix c B)(h0:I s0 w)
 (hround:∀(l:Nat)(s:β)(args:Array bt)(s':β)(W:bq),I s W->we s args s' W->w.heap.size+2<=W->
   assign.wpIn (Fence.wide.inRound l) 0 P (Exit.then (λa1 W1=>bh (S) W W1/\∀W2,bh (λi=>i=[w]) W1 W2->W2.heap.size=W1->body.wpIn (Fence.wide.inRound l) 0 P (Kb S I Ix s' W2) a1 W2) (λ_ _ _=>False))
    {tmps:=(ps.zip args).foldl (λt(p,v)=>t.setIfInBounds p v) a.tmps,defers:=[]} W)
 (hdone:∀(s:β)(W:bq),End s->I s W->ed W w (.deferred (some []))->Q .normal {a with defers:=Vq w::a.defers} W)
 (hstop:∀(c:Code)(W:bq),Ix c W->ed W w (.deferred (some []))->c.wpIn Fence.wide 0 P Q {a with defers:=Vq w::a.defers} W):
 (Code.rangeFunc g ps assign body).wpIn Fence.wide 0 P Q a w:=by
 refine wpIn_rangeFunc ?_;intro fn hfn;obtain⟨rec,CT⟩:∃rec:LoopState->Option Code->Loop,rec=λst pe=>{state:=st,pending:=pe,fn,tmps:=a.tmps,params:=ps,assign,body,defers:=w.heap.size}:=⟨_,rfl⟩;have⟨W1,hW1⟩:=js ((w.alloc (.deferred (some []))).alloc (.loop (rec .ready none)));have hB1:Bx w [.deferred (some []), .loop (rec .ready none)] W1:=by rw[<-hW1];exact Bx.ei w _ _
 have hz1:W1.heap.size=↑w+2:=by rw[<-hW1];simp
 have hI1:I s0 W1:=hI _ _ _ h0 (bh.bA hB1.1);refine⟨[w],[Vq w],W1,{target:= .fn (.func gf) lb,args:= #[.func (.yield [w]) #[] #[]]},W1,gf,#[.func (.yield [w]) #[] #[]]++lb,W1,?_,?_,?_,?_,(λh=>by cases h),?_⟩
 .rw[<-hW1,CT];exact run_enterLoop_outer _ _ _ _ _
 .simp only[resolve,hg];simp[go_sem]
 .intro f' hf';exact trivial
 .simp[invoke,go_sem,eg]
 refine(Ra (λs W=>I s W/\cX W [w] (.loop (rec .ready none))/\ed W w (.deferred (some [])))
  (λW=>∃c,Ix c W/\cX W [w] (.loop (rec .done (some c)))/\ed W w (.deferred (some [])))
  W1 hz1 hB1.1 ?_ ?_ ?_ ⟨hI1,hB1.cZ rfl,hB1.cP rfl⟩).mono ?_
 .rintro s A B⟨h1,h2,h3⟩ho;exact⟨hI _ _ _ h1 (ho.mono λi hi=>⟨by have:=hi.1;omega,hi.2⟩),ho.at_ h2 (λh=>by have:=h.1;omega),ho.at_ h3 (λh=>by have:=h.1;omega)⟩
 .rintro A B⟨c,h1,h2,h3⟩ho;exact⟨c,WQ _ _ _ h1 (ho.mono λi hi=>⟨by have:=hi.1;omega,hi.2⟩),ho.at_ h2 (λh=>by have:=h.1;omega),ho.at_ h3 (λh=>by have:=h.1;omega)⟩
 .rintro s args s' A⟨hi,hl,hk⟩hT;have cE:w.heap.size+1<A:=(ab.1 hl).1;have hy:=run_yield (P:=P) (args:=args) hl (by rw[CT];exact hps s args s' A hT);rw[CT]at hy;refine⟨fn,_,assign,body,hy,roundIn_of_wpIn hfn (wpIn_mono (hround _ s args s' A hi hT (by omega)) ?_)⟩;have nb1:¬S [w]:=λh=>by have:=hS _ h;omega
  have nb0:¬S w:=λh=>by have:=hS _ h;omega
  have sub:∀i,S i->Y9 S w i:=λi h=> .inl h;rintro e a1 A1 hp;cases e with
  |normal=>
   obtain⟨ho1,hb⟩:=hp;have hl1:=ho1.at_ hl nb1;have hk1:=ho1.at_ hk nb0;have ho2:bh (λi=>i=[w]) A1 (A1.putObj [w] (.loop {rec .ready none with state:= .busy})):=(bh.refl (λi=>i=[w]) A1).putObj (.inl rfl) _;refine⟨_,run_beginRound hl1 (by rw[CT]),?_⟩;have hl2:(A1.putObj [w] (.loop {rec .ready none with state:= .busy})).heap[w.heap.size+1]? =some (.loop {rec .ready none with state:= .busy}):=World.putObj_heap_same (ab.1 hl1).1;have hk2:=ho2.at_ hk1 (by show¬(w.heap.size=[w]);omega);refine wpIn_mono (hb _ ho2 (by simp)) ?_;have fin:∀(jump:Option Code)(A3:bq),bh (S) (A1.putObj [w] (.loop {rec .ready none with state:= .busy})) A3->
    (Instr.endRound [w] jump).run P A3= .ok (xB jump.isNone) (A3.putObj [w] (.loop (rec (if jump.isNone then .ready else .done) jump)))/\
    (A3.putObj [w] (.loop (rec (if jump.isNone then .ready else .done) jump))).heap[w.heap.size+1]? =some (.loop (rec (if jump.isNone then .ready else .done) jump))/\
    (A3.putObj [w] (.loop (rec (if jump.isNone then .ready else .done) jump))).heap[w.heap.size]? =some (.deferred (some []))/\
    bh (St w k) A3 (A3.putObj [w] (.loop (rec (if jump.isNone then .ready else .done) jump)))/\
    bh (Y9 S w) A (A3.putObj [w] (.loop (rec (if jump.isNone then .ready else .done) jump))):=λjump A3 KP=>by
    have RW:=KP.at_ hl2 nb1;have BD:=KP.at_ hk2 nb0;have hr:=run_endRound (P:=P) jump RW;have h5:=((ho1.mono sub).trans (ho2.mono λi hi=> .inr hi)).trans (KP.mono sub);rw[CT]at hr⊢;refine⟨hr,World.putObj_heap_same (ab.1 RW).1,(World.putObj_heap_other (by omega)).trans BD,(bh.refl _ _).putObj (.inl ⟨by omega,by omega⟩) _,?_⟩;exact h5.putObj (.inl (.inr rfl)) _
   rintro e a3 A3 FR;cases e with
   |normal=>
    obtain⟨KP,Q0⟩:=FR;have⟨hr,hl4,hk4,ho4,ho5⟩:=fin none A3 KP;exact⟨_,_,hr, .inl ⟨rfl,⟨hI _ _ _ Q0 ho4,hl4,hk4⟩,ho5⟩⟩
   |ret=>
    obtain⟨KP,Q0⟩:=FR;have⟨hr,hl4,hk4,ho4,ho5⟩:=fin (some .ret) A3 KP;exact⟨_,_,hr, .inr ⟨rfl, .ret,WQ _ _ _ Q0 ho4,hl4,hk4⟩⟩
   |exit id=>
    obtain⟨KP,Q0⟩:=FR;have⟨hr,hl4,hk4,ho4,ho5⟩:=fin (some (.exit id)) A3 KP;exact⟨_,_,hr, .inr ⟨rfl, .exit id,WQ _ _ _ Q0 ho4,hl4,hk4⟩⟩
   |goto t=>
    obtain⟨KP,Q0⟩:=FR;have⟨hr,hl4,hk4,ho4,ho5⟩:=fin (some (.goto t)) A3 KP;exact⟨_,_,hr, .inr ⟨rfl, .goto t,WQ _ _ _ Q0 ho4,hl4,hk4⟩⟩
   |panic ch=>exact FR.elim
   |outgrown=>exact FR.elim
  |ret=>exact hp.elim
  |exit id=>exact hp.elim
  |goto t=>exact hp.elim
  |panic ch=>exact hp.elim
  |outgrown=>exact hp.elim
 rintro e W2⟨⟨v,rfl⟩,(⟨s,hE,hi,hl,hk⟩|⟨c,hi,hl,hk⟩)⟩
 .exact⟨none,_,by have:=run_endLoop (P:=P) hl (by rw[CT];simp);rw[CT]at this;exact this,hdone s _ hE (hI _ _ _ hi ((bh.refl _ _).putObj (.inl ⟨by omega,by omega⟩) _)) ((World.putObj_heap_other (by omega)).trans hk)⟩
 exact⟨some c,_,by have:=run_endLoop (P:=P) hl (by rw[CT];simp);rw[CT]at this;exact this,hstop c _ (WQ _ _ _ hi ((bh.refl _ _).putObj (.inl ⟨by omega,by omega⟩) _)) ((World.putObj_heap_other (by omega)).trans hk)⟩
def rdS(C:bY)(w:bq)(k:Nat):Nat->Prop:=Y9 (NF C w k) w
def DM {C:bY}{B:bq}(h:bC w0 A)(ho:bh (rdS C w k) A B)(hC:∀i,C i->w0.heap.size<=i)(hw:w0.heap.size<=w):bC w0 B:=
 ⟨ho.os.trans h.os,ho.tape.trans h.tape,ho.output.trans h.output,aH h.size ho.size,λi hi=>(ho.block i (aN hi h.size) (λhS=>by
   rcases hS with(hS|hS)|hS
   .have:=hC i hS;omega
   .omega
   omega)).trans (h.block i hi)⟩
abbrev Hi {β:Type}(P:Program)(gf:Nat)(lb:Array bt)(w:bq)(C:bY)(k:Nat)(s0:β)(we:β->Array bt->β->bq->Prop)(End:β->Prop):Prop:=LG P gf lb w (NF C w k) k s0 we End
abbrev Vr {β:Type}(C:bY)(w:bq)(k:Nat)(I:β->bq->Prop)(Ix:Code->bq->Prop)(s:β)(W:bq):Exit->Act->bq->Prop:=Kb (NF C w k) I Ix s W
def qA {β:Type}{P:Program}{g:Operand}{ps:Array Tmp}{assign body:Code}{Q:Exit->Act->bq->Prop}{a:Act}{gf:Nat}{lb:Array bt}
 (hg:a.eval g= .func (.func gf) #[] lb)(eg:∀args w,(callFunc gf args).run P w= .ok (.enter gf args) w)
 (C:bY)(k:Nat)(s0:β)(we:β->Array bt->β->bq->Prop)(End:β->Prop)(Ra:Hi P gf lb w C k s0 we End)(hps:∀s args s' W,we s args s' W->args.size=ps.size)(hC:∀i,C i->i<w.heap.size)
 (I:β->bq->Prop)(Ix:Code->bq->Prop)(hI:∀s A B,I s A->bh (St w k) A B->I s B)(WQ:∀c A B,Ix c A->bh (St w k) A B->Ix c B)(h0:I s0 w)
 (hround:∀(l:Nat)(s:β)(args:Array bt)(s':β)(W:bq),I s W->we s args s' W->w.heap.size+2<=W->
   assign.wpIn (Fence.wide.inRound l) 0 P (Exit.then (λa1 W1=>bh (NF C w k) W W1/\∀W2,bh (λi=>i=[w]) W1 W2->W2.heap.size=W1->body.wpIn (Fence.wide.inRound l) 0 P (Vr C w k I Ix s' W2) a1 W2) (λ_ _ _=>False))
    {tmps:=(ps.zip args).foldl (λt(p,v)=>t.setIfInBounds p v) a.tmps,defers:=[]} W)
 (hdone:∀(s:β)(W:bq),End s->I s W->ed W w (.deferred (some []))->Q .normal {a with defers:=Vq w::a.defers} W)
 (hstop:∀(c:Code)(W:bq),Ix c W->ed W w (.deferred (some []))->c.wpIn Fence.wide 0 P Q {a with defers:=Vq w::a.defers} W):
 (Code.rangeFunc g ps assign body).wpIn Fence.wide 0 P Q a w:=
 oI hg eg (NF C w k) k s0 we End Ra hps (λi h=>h.imp (hC i) λh=>by omega) I Ix hI WQ h0 hround hdone hstop
section
variable {P:Program}{α:Type} [bD α]
def Hj {l n:Nat}{ops:Array Oper}{rest:List Oper}{o:Oper}{a:Act}{Q:Exit->Act->bq->Prop}(hgd:o.guard=none)(hd:∀c,o.op≠ .defer c)(hr:(execOp a.eval o).run P w= .ok (.value v) w')
 (h:wpListIn (Fence.wide.inRound l) n P ops Q rest (a.put o.dst v) w'):wpListIn (Fence.wide.inRound l) n P ops Q (o::rest) a w:=by
 have hw:Region.wanted o (yielded ops a.tmps)=true:=by simp[Region.wanted,hgd]
 simp only[wpListIn,hw,if_true];refine⟨λf _=>trivial,?_⟩;rw[Oper.semAt_eq _ _ _ hd,hr];exact h
def qQ {l n:Nat}{ops:Array Oper}{rest:List Oper}{o:Oper}{a:Act}{Q:Exit->Act->bq->Prop}(hgd:o.guard=none)(s x:Operand)(t:TypeId)
 (ho:o.op= .call {callee:= .builtin .append,args:= #[s,x],argTypes:= #[t,t]})
 (M:bY)(base:Nat)(e:TypeId)(i:TypeInfo)(z:bt)(bytes:Nat)(ht:P.underlying t=some (.slice e))(hi:P.info? e=some i)(hz:i.zero=some z)
 (hsize:i.size=bD.size α)(hby:i.bytes=bytes)(hzs:z.cells.size=bD.size α)(hsz:0<bD.size α)
 (v:bt)(xs:List α)(hs:a.eval s=v)(hacc:bP M base e w v xs)
 (F:bY)(sv:bt)(cs:List bt)(y:α)(hx:a.eval x=sv)(hr:du F w (bD.size α) sv 1 cs)(hy:bD.rep (cz v M) w cs y)
 (h63:xs.length+1<=maxLen)(hbytes:(xs.length+1)*bytes<=140737488355328)(hbase:base<=w)
 (h:∀a' c' w',bP M base e w' (xL a' (xs.length+1) c') (xs++[y])->Ev (cz v M) w (cz (xL a' (xs.length+1) c') M) w'->Below base w w'->wpListIn (Fence.wide.inRound l) n P ops Q rest (a.put o.dst (xL a' (xs.length+1) c')) w'):wpListIn (Fence.wide.inRound l) n P ops Q (o::rest) a w:=by
 obtain⟨css,h1,h2,h3⟩:=hacc;have⟨v',w',hrun,k1,k2,k3⟩:=iK (P:=P) w base t o.type e i z (bD.size α) bytes ht hi hz hsize hby hzs hsz v xs.length css.flatten h1 sv 1 cs hr (bD.flat hy) h63 hbytes hbase;obtain⟨a',c',rfl,_,_⟩:=ic k1;refine Hj hgd (λc hc=>by rw[ho]at hc;cases hc) (v:=xL a' (xs.length+1) c') (w':=w') ?_ (h a' c' w' (bP.snoc h2 h3 hy k1 k2 k3) (Ev.grown k2 k3) ((ay _ w).grown k2 hbase λk hk=>(h1.lt k hk).1));unfold execOp;simp only[ho,resolve,invoke,builtin,Sem.run_bind,Sem.run_pure,Result.andThen_ok,List.map_toArray,List.map_cons,List.map_nil,hs,hx,hrun]
end
def bP.KX {α:Type} [bD α]{S:bY}{xs:List α}(h:bP xF base e w v xs)(ho:bh S w w')(hb:∀i,S i->i<base)(hS:∀{M M':bY}{cs:List bt}{x:α},bD.rep M w cs x->bD.rep M' w' cs x):bP xF base e w' v xs:=by
 obtain⟨css,k1,k2,k3⟩:=h;refine⟨css,⟨k1.1,?_⟩,k2,λi cs x hc hx=>hS (k3 i cs x hc hx)⟩;rcases k1.2 with h0|⟨g,cap,cur,e1,e2,e3,e4⟩
 .exact .inl h0
 exact .inr ⟨g,cap,cur,e1,e2,ho.at_ e3 (λh=>by have:=hb _ h;omega),e4⟩
section
variable {P:Program}
def DR {l n:Nat}{ops:Array Oper}{o:Oper}{a:Act}{K:Act->bq->Prop}{Q:Exit->Act->bq->Prop}{E:Prop}(hgd:o.guard=none)(hd:∀c,o.op≠ .defer c)(hr:(execOp a.eval o).run P w= .ok (.value v) w')(h:K (a.put o.dst v) w'):
 if Region.wanted o (yielded ops a.tmps)=true then Oper.wpIn (Fence.wide.inRound l) n P o a w K Q else E:=by
 have hw:Region.wanted o (yielded ops a.tmps)=true:=by simp[Region.wanted,hgd]
 rw[if_pos hw];refine⟨λf _=>trivial,?_⟩;rw[Oper.semAt_eq _ _ _ hd,hr];exact h
variable {α:Type} [bD α]
def jT {l n:Nat}{ops:Array Oper}{o:Oper}{a:Act}{K:Act->bq->Prop}{Q:Exit->Act->bq->Prop}{E:Prop}(hgd:o.guard=none)(s x:Operand)(t:TypeId)
 (ho:o.op= .call {callee:= .builtin .append,args:= #[s,x],argTypes:= #[t,t]})
 (M:bY)(base:Nat)(e:TypeId)(i:TypeInfo)(z:bt)(bytes:Nat)(ht:P.underlying t=some (.slice e))(hi:P.info? e=some i)(hz:i.zero=some z)
 (hsize:i.size=bD.size α)(hby:i.bytes=bytes)(hzs:z.cells.size=bD.size α)(hsz:0<bD.size α)
 (v:bt)(xs:List α)(hs:a.eval s=v)(hacc:bP M base e w v xs)
 (sv:bt)(ys:List α)(hx:a.eval x=sv)(hr:aS (cz v M) w sv ys)
 (h63:xs.length+ys.length<=maxLen)(hbytes:(xs.length+ys.length)*bytes<=140737488355328)(hbase:base<=w)
 (h:∀a' c' w',bP M base e w' (xL a' (xs.length+ys.length) c') (xs++ys)->Ev (cz v M) w (cz (xL a' (xs.length+ys.length) c') M) w'->Below base w w'->K (a.put o.dst (xL a' (xs.length+ys.length) c')) w'):
 if Region.wanted o (yielded ops a.tmps)=true then Oper.wpIn (Fence.wide.inRound l) n P o a w K Q else E:=by
 obtain⟨css,h1,h2,h3⟩:=hacc;obtain⟨Nl,k1,k2,k3⟩:=hr;have FM:∀u∈Nl.flatten,u.oneCell'=true:=λu hu=>by
  have⟨cs,hcs,hu⟩:=List.mem_flatten.1 hu;have⟨i,hi⟩:=aP hcs;have wJ:i<ys.length:=by rw[<-k2];exact(ag.1 hi).1
  exact bD.flat (k3 i cs _ hi (af wJ)) u hu
 have⟨v',w',hrun,j1,j2,j3⟩:=iK (P:=P) w base t o.type e i z (bD.size α) bytes ht hi hz hsize hby hzs hsz v xs.length css.flatten h1 sv ys.length Nl.flatten k1 FM h63 hbytes hbase;obtain⟨a',c',rfl,_,_⟩:=ic j1;refine DR hgd (λc hc=>by rw[ho]at hc;cases hc) (v:=xL a' (xs.length+ys.length) c') (w':=w') ?_ (h a' c' w' (bP.app h2 h3 k2 k3 j1 j2 j3) (Ev.grown j2 j3) ((ay _ w).grown j2 hbase λk hk=>(h1.lt k hk).1));unfold execOp;simp only[ho,resolve,invoke,builtin,Sem.run_bind,Sem.run_pure,Result.andThen_ok,List.map_toArray,List.map_cons,List.map_nil,hs,hx,hrun]
end
def gn {α:Type}(K:α->bt)(p:α×bt×Nat):MapEntry:=⟨K p.1,p.2.1,p.2.2⟩
theorem nG {α:Type} [DecidableEq α](K:α->bt)(td:TypeDesc)(hK:∀x y,Instr.sameNow td (K x) (K y)=some (decide (x=y)))(x:α):∀(es:List (α×bt×Nat))(i:Nat),Instr.findNow td (K x) (es.map (gn K)) i=some ((es.findIdx? λp=>decide (x=p.1)).map λj=>(i+j,(es[j]?.map (·.2.1)).getD undef))
 |[],i=>by simp[Instr.findNow]
 |p::r,i=>by
  simp only[List.map_cons,Instr.findNow];rw[show(gn K p).key=K p.1 from rfl,hK];by_cases h:x=p.1
  .simp[h,List.findIdx?_cons,gn]
  simp only[h,decide_false];rw[nG K td hK x r (i+1)];simp only[List.findIdx?_cons,h,decide_false,Bool.false_eq_true,if_false,Option.map_map];congr 2;funext j;simp;omega
def l6(x y:ByteArray):Instr.sameNow .string (.string x) (.string y)=some (decide (x=y)):=by
 simp only[Instr.sameNow];congr 1;cases x with
 |mk a=>
  cases y with
  |mk b=>
   have h1:((⟨a⟩:ByteArray)==⟨b⟩)=(a==b):=by first|rfl|simp[BEq.beq]
   rw[h1,Bool.eq_iff_iff];simp
def pV(x y:Int):Instr.sameNow (.int .i64) x (xI y)=some (decide (x=y)):=by
 simp only[Instr.sameNow,if_true];congr 1
section
variable {α:Type} [DecidableEq α](K:α->bt)(td:TypeDesc)(hK:∀x y,Instr.sameNow td (K x) (K y)=some (decide (x=y)))
variable {P:Program}{kt et mt:TypeId}{w:bq}{b:Nat}{es:List (α×bt×Nat)}{clk:Nat}
def cB(es:List (α×bt×Nat))(x:α):Option bt:=(es.find? λp=>decide (x=p.1)).map (·.2.1)
def fV(x:α)(es:List (α×bt×Nat)):((es.findIdx? λp=>decide (x=p.1)).map λj=>(es[j]?.map (·.2.1)).getD undef)=cB es x:=by
 unfold cB;induction es with
 |nil=>rfl
 |cons p r ih=>
  by_cases h:x=p.1
  .simp[List.findIdx?_cons,h]
  simp only[List.findIdx?_cons,h,decide_false,Bool.false_eq_true,if_false,List.find?_cons,Option.map_map];rw[<-ih];congr 1
def cO(w:bq)(b:Nat)(es:List (α×bt×Nat))(clk:Nat):Prop:=cX w b (.map (es.map (gn K)).toArray clk)
variable(hm:P.underlying mt=some (.map kt et))(hk:P.underlying kt=some td)(hchk:∀(e:Bool)(x:α)(w:bq),(Instr.checkKey e 10000 kt (K x)).run P w= .ok () w)
include hK hm hk hchk
def cO.lookup(h:cO K w b es clk)(x:α)(v:bt)(hv:cB es x=some v):(Instr.lookup mt (.map (some b)) (K x) false).run P w= .ok v w:=by
 have hf:(Instr.findKey kt (K x) (es.map (gn K)).toArray.toList).run P w= .ok ((es.findIdx? λp=>decide (x=p.1)).map λj=>(0+j,(es[j]?.map (·.2.1)).getD undef)) w:=by
  simp only[Instr.findKey,Sem.run_bind,run_underlying hk,Result.andThen_ok];rw[nG K td hK x es 0];rfl
 simp only[Instr.lookup,Sem.run_bind,run_underlying hm,Result.andThen_ok,MapKept.run_getObj_map h,Sem.run_pure,hchk];rw[hf];have h2:=fV x es;rw[hv]at h2;cases hq:es.findIdx? λp=>decide (x=p.1)with
 |none=>rw[hq]at h2;cases h2
 |some j=>
  rw[hq]at h2;simp only[Option.map_some,aG]at h2;simp[h2]
def cO.SG(h:cO K w b es clk)(x:α)(z:bt)(hz:(zeroValue et).run P w= .ok z w)(hv:cB es x=none):(Instr.lookup mt (.map (some b)) (K x) false).run P w= .ok z w:=by
 have hf:(Instr.findKey kt (K x) (es.map (gn K)).toArray.toList).run P w= .ok ((es.findIdx? λp=>decide (x=p.1)).map λj=>(0+j,(es[j]?.map (·.2.1)).getD undef)) w:=by
  simp only[Instr.findKey,Sem.run_bind,run_underlying hk,Result.andThen_ok];rw[nG K td hK x es 0];rfl
 simp only[Instr.lookup,Sem.run_bind,run_underlying hm,Result.andThen_ok,MapKept.run_getObj_map h,Sem.run_pure,hchk];rw[hf];have h2:=fV x es;rw[hv]at h2;cases hq:es.findIdx? λp=>decide (x=p.1)with
 |some j=>rw[hq]at h2;cases h2
 |none=>simp[hz]
def cO.insert(h:cO K w b es clk)(x:α)(v:bt)(hv:cB es x=none):(Instr.mapUpdate mt (.map (some b)) (K x) v).run P w= .ok () (w.putObj b (.map ((es++[(x,v,clk)]).map (gn K)).toArray (clk+1)))/\cO K (w.putObj b (.map ((es++[(x,v,clk)]).map (gn K)).toArray (clk+1))) b (es++[(x,v,clk)]) (clk+1):=by
 have hf:(Instr.findKey kt (K x) (es.map (gn K)).toArray.toList).run P w= .ok ((es.findIdx? λp=>decide (x=p.1)).map λj=>(0+j,(es[j]?.map (·.2.1)).getD undef)) w:=by
  simp only[Instr.findKey,Sem.run_bind,run_underlying hk,Result.andThen_ok];rw[nG K td hK x es 0];rfl
 refine⟨?_,World.putObj_heap_same (ab.1 h).1⟩;simp only[Instr.mapUpdate,Sem.run_bind,run_underlying hm,Result.andThen_ok,MapKept.run_getObj_map h,Sem.run_pure,hchk];rw[hf];have h2:=fV x es;rw[hv]at h2;cases hq:es.findIdx? λp=>decide (x=p.1)with
 |some j=>rw[hq]at h2;cases h2
 |none=>
  have hh:cX w b (.map (es.map (gn K)).toArray clk):=h;simp[setObj,Sem.run,World.putObj,hh,gn]
end
end
namespace Mk
open Go.RowKit
def sF:(Tryz.prog.info? 3).map (λi=>(i.zero,i.size,i.bytes))=some (some (xI 0),1,8):=by kernel_rfl
end Mk
namespace Mk
def PB(xs:List Int):Prop:=xs.Pairwise (·< ·)
inductive wD(bB:List Int)(R:Int->List Int):Int->Prop
 |root(x:Int):x∈bB->wD bB R x
 |step(x y:Int):wD bB R x->y∈R x->wD bB R y
section
variable {bB:List Int}{R:Int->List Int}{G B:List Int}
end
def eT(p:List Int×List Int)(ids:List Int):List Int×List Int:=ids.foldl (λp x=>if x∈p.1 then p else(p.1++[x],p.2++[x])) p
def AS {p:List Int×List Int}{ids:List Int}{x:Int}(hx:ids[k]? =some x):eT p (ids.take (k+1))=if x∈(eT p (ids.take k)).1 then eT p (ids.take k)else((eT p (ids.take k)).1++[x],(eT p (ids.take k)).2++[x]):=by
 unfold eT;rw[ao,hx,List.foldl_append];rfl
theorem pY:∀(ids S wk:List Int),∃new,eT (S,wk) ids=(S++new,wk++new)/\(∀x∈new,x∈ids/\x∉S)/\∀x∈ids,x∈S++new
 |[],S,wk=>⟨[],by simp[eT],λx h=>(by cases h),λx h=>by cases h⟩
 |a::ids,S,wk=>by
  by_cases ha:a∈S
  .have⟨new,h1,h2,h3⟩:=pY ids S wk;refine⟨new,?_,λx hx=>⟨List.mem_cons_of_mem _ (h2 x hx).1,(h2 x hx).2⟩,λx hx=> ?_⟩
   .rw[<-h1];unfold eT;rw[List.foldl_cons];simp[ha]
   rcases aO.1 hx with rfl|hx
   .exact List.mem_append_left _ ha
   exact h3 x hx
  have⟨new,h1,h2,h3⟩:=pY ids (S++[a]) (wk++[a]);refine⟨a::new,?_,λx hx=> ?_,λx hx=> ?_⟩
  .have e:eT (S,wk) (a::ids)=eT (S++[a],wk++[a]) ids:=by unfold eT;rw[List.foldl_cons];simp[ha]
   rw[e,h1];simp
  .rcases aO.1 hx with rfl|hx
   .exact⟨List.mem_cons_self,ha⟩
   exact⟨List.mem_cons_of_mem _ (h2 x hx).1,λh=>(h2 x hx).2 (List.mem_append_left _ h)⟩
  rcases aO.1 hx with rfl|hx
  .simp
  have:=h3 x hx;simp only[aI,aO,List.not_mem_nil,or_false]at this⊢;rcases this with(h|h)|h
  .exact .inl h
  .exact .inr (.inl h)
  exact .inr (.inr h)
structure pf(bB:List Int)(R:Int->List Int)(S wk:List Int):Prop where
 sub:∀x∈wk,x∈S
 reached:∀x∈S,wD bB R x
 all:∀x∈bB,x∈S
 closed:∀x∈S,x∈wk\/∀y∈R x,y∈S
def pf.start(bB:List Int)(R:Int->List Int):pf bB R (eT ([],[]) bB).1 (eT ([],[]) bB).2:=by
 have⟨new,h1,h2,h3⟩:=pY bB [] [];rw[h1];simp only[List.nil_append]at h3⊢;exact⟨λx h=>h,λx h=> .root x (h2 x h).1,h3,λx h=> .inl h⟩
section
variable {bB:List Int}{R:Int->List Int}{S wk:List Int}
def pf.step(h:pf bB R S (wk++[id])):pf bB R (eT (S,wk) (R id)).1 (eT (S,wk) (R id)).2:=by
 have⟨new,h1,h2,h3⟩:=pY (R id) S wk;rw[h1];have hid:id∈S:=h.sub id (by simp);refine⟨λx hx=> ?_,λx hx=> ?_,λx hx=>List.mem_append_left _ (h.all x hx),λx hx=> ?_⟩
 .rcases aI.1 hx with hx|hx
  .exact List.mem_append_left _ (h.sub x (List.mem_append_left _ hx))
  exact List.mem_append_right _ hx
 .rcases aI.1 hx with hx|hx
  .exact h.reached x hx
  exact .step id x (h.reached id hid) (h2 x hx).1
 rcases aI.1 hx with hx|hx
 .by_cases e:x=id
  .subst e;exact .inr h3
  rcases h.closed x hx with hc|hc
  .rcases aI.1 hc with hc|hc
   .exact .inl (List.mem_append_left _ hc)
   simp at hc;exact absurd hc e
  exact .inr λy hy=>List.mem_append_left _ (hc y hy)
 exact .inl (List.mem_append_right _ hx)
def pf.done(h:pf bB R S []):∀x,x∈S↔wD bB R x:=by
 refineλx=>⟨h.reached x,λhx=> ?_⟩;induction hx with
 |root x hx=>exact h.all x hx
 |step x y _ hy ih=>exact((h.closed x ih).resolve_left (by simp)) y hy
def pZ(n:Nat)(S wk:List Int):Nat:=2*(n-S.length)+wk.length
def EA {n:Nat}{S' KQ:List Int}(he:eT (S,wk) (R id)=(S',KQ))(hS:S'.length<=n):pZ n S' KQ<pZ n S (wk++[id]):=by
 have⟨new,h1,_,_⟩:=pY (R id) S wk;rw[h1]at he;cases he;unfold pZ;simp only[aJ,aC,aD]at hS⊢;omega
end
end Mk
section
open Go.RowKit
section
variable {α:Type} [DecidableEq α](K:α->bt)(td:TypeDesc)
variable {P:Program}{kt et mt:TypeId}{w:bq}{b:Nat}{es:List (α×bt×Nat)}{clk:Nat}
def l8(P:Program)(kt:TypeId):Prop:=∀(x:α)(es:List (α×bt×Nat))(w:bq),(Instr.findKey kt (K x) (es.map (gn K)).toArray.toList).run P w= .ok ((es.findIdx? λp=>decide (x=p.1)).map λj=>(0+j,(es[j]?.map (·.2.1)).getD undef)) w
def AT(hK:∀x y,Instr.sameNow td (K x) (K y)=some (decide (x=y)))(hk:P.underlying kt=some td):l8 K P kt:=λx es w=>by
 simp only[Instr.findKey,Sem.run_bind,run_underlying hk,Result.andThen_ok];rw[nG K td hK x es 0];rfl
theorem AU(hE:∀(x y:α)(w:bq),(Op.equal kt (K x) (K y)).run P w= .ok (decide (x=y)) w)(x:α)(w:bq):∀(es:List (α×bt×Nat))(i:Nat),(Instr.findAsking kt (K x) (es.map (gn K)) i).run P w= .ok ((es.findIdx? λp=>decide (x=p.1)).map λj=>(i+j,(es[j]?.map (·.2.1)).getD undef)) w
 |[],i=>by simp[Instr.findAsking]
 |p::r,i=>by
  simp only[List.map_cons,Instr.findAsking,Sem.run_bind];rw[show(gn K p).key=K p.1 from rfl,hE];simp only[Result.andThen_ok];by_cases h:x=p.1
  .simp[h,List.findIdx?_cons,gn]
  simp only[h,decide_false,Bool.false_eq_true,if_false];rw[AU hE x w r (i+1)];simp only[List.findIdx?_cons,h,decide_false,Bool.false_eq_true,if_false,Option.map_map];congr 2;funext j;simp;omega
def Mh(hN:∀x y,Instr.sameNow td (K x) (K y)=none)(hk:P.underlying kt=some td)(hE:∀(x y:α)(w:bq),(Op.equal kt (K x) (K y)).run P w= .ok (decide (x=y)) w):l8 K P kt:=λx es w=>by
 simp only[Instr.findKey,Sem.run_bind,run_underlying hk,Result.andThen_ok];cases es with
 |nil=>simp[Instr.findNow]
 |cons p r=>
  simp only[List.map_cons,Instr.findNow];rw[show(gn K p).key=K p.1 from rfl,hN];have h:=AU K hE x w (p::r) 0;simp only[List.map_cons]at h;exact h
variable(hm:P.underlying mt=some (.map kt et))(hF:l8 K P kt)(hchk:∀(e:Bool)(x:α)(w:bq),(Instr.checkKey e 10000 kt (K x)).run P w= .ok () w)
include hm hF hchk
def cO.EB(h:cO K w b es clk)(x:α)(v:bt)(hv:cB es x=some v):(Instr.lookup mt (.map (some b)) (K x) true).run P w= .ok (.tuple #[v,true]) w:=by
 have hf:=hF x es w;simp only[Instr.lookup,Sem.run_bind,run_underlying hm,Result.andThen_ok,MapKept.run_getObj_map h,Sem.run_pure,hchk];rw[hf];have h2:=fV x es;rw[hv]at h2;cases hq:es.findIdx? λp=>decide (x=p.1)with
 |none=>rw[hq]at h2;cases h2
 |some j=>
  rw[hq]at h2;simp only[Option.map_some,aG]at h2;simp[h2]
def cO.AV(h:cO K w b es clk)(x:α)(v:bt)(hv:cB es x=some v):(Instr.lookup mt (.map (some b)) (K x) false).run P w= .ok v w:=by
 have hf:=hF x es w;simp only[Instr.lookup,Sem.run_bind,run_underlying hm,Result.andThen_ok,MapKept.run_getObj_map h,Sem.run_pure,hchk];rw[hf];have h2:=fV x es;rw[hv]at h2;cases hq:es.findIdx? λp=>decide (x=p.1)with
 |none=>rw[hq]at h2;cases h2
 |some j=>
  rw[hq]at h2;simp only[Option.map_some,aG]at h2;simp[h2]
def cO.Ue(h:cO K w b es clk)(x:α)(z:bt)(hz:(zeroValue et).run P w= .ok z w)(hv:cB es x=none):(Instr.lookup mt (.map (some b)) (K x) true).run P w= .ok (.tuple #[z,false]) w:=by
 have hf:=hF x es w;simp only[Instr.lookup,Sem.run_bind,run_underlying hm,Result.andThen_ok,MapKept.run_getObj_map h,Sem.run_pure,hchk];rw[hf];have h2:=fV x es;rw[hv]at h2;cases hq:es.findIdx? λp=>decide (x=p.1)with
 |some j=>rw[hq]at h2;cases h2
 |none=>simp[hz]
def cO.SO(h:cO K w b es clk)(x:α)(v:bt)(hv:cB es x=none):∃w',(Instr.mapUpdate mt (.map (some b)) (K x) v).run P w= .ok () w'/\cO K w' b (es++[(x,v,clk)]) (clk+1)/\bh (λi=>i=b) w w':=by
 have hf:=hF x es w;refine⟨w.putObj b (.map ((es++[(x,v,clk)]).map (gn K)).toArray (clk+1)),?_,World.putObj_heap_same (ab.1 h).1,(bh.refl (λi=>i=b) w).putObj (.inl rfl) _⟩;simp only[Instr.mapUpdate,Sem.run_bind,run_underlying hm,Result.andThen_ok,MapKept.run_getObj_map h,Sem.run_pure,hchk];rw[hf];have h2:=fV x es;rw[hv]at h2;cases hq:es.findIdx? λp=>decide (x=p.1)with
 |some j=>rw[hq]at h2;cases h2
 |none=>
  have hh:cX w b (.map (es.map (gn K)).toArray clk):=h;simp[setObj,Sem.run,World.putObj,hh,gn]
end
def uE {α:Type} [DecidableEq α]{es:List (α×bt×Nat)}{x:α}{clk:Nat}(y:α)(h:cB es x=none):cB (es++[(x,v,clk)]) y=if y=x then some v else cB es y:=by
 unfold cB at h⊢;rw[List.find?_append];by_cases e:y=x
 .subst e;rw[Option.map_eq_none_iff]at h;rw[h];simp
 cases hq:es.find? λp=>decide (y=p.1)<;>simp[e]
end
section
open Go.RowKit
open Go.ChangeMaps (setBlock)
section
variable {α:Type}(K:α->bt){P:Program}{w:bq}{b r clk:Nat}{es V:List (α×bt×Nat)}
structure fK(w:bq)(b:Nat)(es:List (α×bt×Nat))(clk:Nat):Prop where
 is_:cO K w b es clk
 born:(es.map (·.2.2)).Nodup
 old:∀p∈es,p.2.2<clk
 keys:(es.map (·.1)).Nodup
def IterM(w:bq)(r b:Nat)(V:List (α×bt×Nat))(clk:Nat):Prop:=w.heap[r]? =some (.mapIter (some b) clk (V.map (·.2.2)).toArray clk)
def Mi {e:MapEntry}(h:e∈(leftOf (es.map (gn K)).toArray (V.map (·.2.2)).toArray).toList):∃p,p∈es/\p.2.2∉V.map (·.2.2)/\e=gn K p:=by
 unfold leftOf at h;simp only[Array.mem_toList_iff,Array.mem_filter,List.mem_toArray,aQ]at h;obtain⟨⟨p,hp,rfl⟩,h2⟩:=h;exact⟨p,hp,by simpa [gn]using h2,rfl⟩
def EC(h:(leftOf (es.map (gn K)).toArray (V.map (·.2.2)).toArray).size=0):∀p∈es,p.2.2∈V.map (·.2.2):=by
 intro p hp;have h1:leftOf (es.map (gn K)).toArray (V.map (·.2.2)).toArray= #[]:=Array.eq_empty_of_size_eq_zero h;unfold leftOf at h1;rw[Array.filter_eq_empty_iff]at h1;have:=h1 (gn K p) (by simp;exact⟨p.1,p.2.1,p.2.2,hp,rfl⟩);simpa [gn]using this
theorem VE {α β:Type}{f:α->β}:∀{l:List α},(l.map f).Nodup->∀{x y:α},x∈l->y∈l->f x=f y->x=y
 |[],_,_,_,h,_,_=>by simp at h
 |a::r,hn,x,y,hx,hy,he=>by
  rw[List.map_cons,List.nodup_cons]at hn;rcases aO.1 hx with h1|h1<;>rcases aO.1 hy with h2|h2
  .rw[h1,h2]
  .exact absurd (aQ.2 ⟨y,h2,by rw[<-he,h1]⟩) hn.1
  .exact absurd (aQ.2 ⟨x,h1,by rw[he,h2]⟩) hn.1
  exact VE hn.2 h1 h2 he
theorem Iw {α β:Type}(f:α->β):∀{l:List α},(l.map f).Nodup->l.Nodup
 |[],_=>List.nodup_nil
 |a::r,hn=>by
  rw[List.map_cons,List.nodup_cons]at hn;exact List.nodup_cons.2 ⟨λh=>hn.1 (aQ.2 ⟨a,h,rfl⟩),Iw f hn.2⟩
def Mj {w:bq}{r:Nat}(o:Obj):bh (λi=>i=r) w (setBlock w r o):=
 ⟨rfl,rfl,rfl,by simp[setBlock],λi _ hi=>by
   have h:¬r=i:=λe=>hi e.symm;simp[setBlock,Array.getElem?_setIfInBounds,h]⟩
def Ko {w:bq}{r:Nat}(o:Obj)(hr:r<w):(setBlock w r o).heap[r]? =some o:=by simp[setBlock,Array.getElem?_setIfInBounds,hr]
def fK.lt(h:fK K w b es clk):b<w:=(ab.1 h.is_).1
def fK.same(h:fK K w b es clk)(he:w'.heap[b]? =w.heap[b]?):fK K w' b es clk:=⟨he.trans h.is_,h.born,h.old,h.keys⟩
def fK.step(h:fK K w b es clk)(hit:IterM w r b V clk)(hV:∀p∈V,p∈es)(hn:(V.map (·.2.2)).Nodup)(ty:TypeId):
 (V.Perm es/\(Instr.next (xP r) false ty).run P w= .ok (.tuple #[false]) w)\/
 ∃p w1,p∈es/\p∉V/\(Instr.next (xP r) false ty).run P w= .ok (.tuple #[true,K p.1,p.2.1]) w1/\
  IterM w1 r b (V++[p]) clk/\((V++[p]).map (·.2.2)).Nodup/\fK K w1 b es clk/\bh (λi=>i=r) w w1/\(Instr.entry (xP r)).run P w1= .ok (.tuple #[K p.1,p.2.1]) w1:=by
 have hb:w.heap[b]? =some (.map (es.map (gn K)).toArray clk):=h.is_;have TN:=hit;unfold IterM at TN;have hrb:r≠b:=by rintro rfl;rw[TN]at hb;simp at hb
 have JK:r<w:=(ab.1 TN).1;rcases run_next_at (P:=P) w ty r b clk clk _ _ clk TN hb (λx hx=>by
  simp only[aQ]at hx;obtain⟨p,hp,rfl⟩:=hx;exact h.old p hp) cN with⟨h0,hrun⟩|⟨e,he,w1,hw1,hrun⟩
 .refine .inl ⟨?_,hrun⟩;have h1:=EC K h0;have hVn:V.Nodup:=Iw _ hn;have hEn:es.Nodup:=Iw _ h.born;refine(List.perm_ext_iff_of_nodup hVn hEn).2 λp=>⟨hV p,λhp=> ?_⟩;have⟨q,hq,hqp⟩:=aQ.1 (h1 p hp);have:q=p:=VE h.born (hV q hq) hp hqp;rw[<-this];exact hq
 obtain⟨p,hp,R4,rfl⟩:=Mi K he;have qap:w1.heap=w.heap:=by rcases hw1 with rfl|rfl<;>rfl
 have qd7:bh (λi=>i=r) w w1:=by
  rcases hw1 with rfl|rfl
  .exact bh.refl _ _
  exact(bh.refl _ _).drew
 have uU:IterM (setBlock w1 r (.mapIter (some b) clk ((V.map (·.2.2)).toArray.push p.2.2) clk)) r b (V++[p]) clk:=by
  unfold IterM;rw[Ko _ (by rw[qap];exact JK)];simp
 have hon:bh (λi=>i=r) w (setBlock w1 r (.mapIter (some b) clk ((V.map (·.2.2)).toArray.push p.2.2) clk)):=qd7.trans (Mj _);have hs1:=h.same K (hon.block b h.lt (λe=>hrb e.symm));refine .inr ⟨p,_,hp,λhm=>R4 (aQ.2 ⟨p,hm,rfl⟩),hrun,uU,?_,hs1,hon,?_⟩
 .rw[List.map_append,List.map_cons,List.map_nil,List.nodup_append];exact⟨hn,by simp,λa ha c hc=>by simp at hc;subst hc;intro e;subst e;exact R4 ha⟩
 have hb1:(setBlock w1 r (.mapIter (some b) clk ((V.map (·.2.2)).toArray.push p.2.2) clk)).heap[b]? =some (.map (es.map (gn K)).toArray clk):=hs1.is_;have:=run_entry_at (P:=P) _ r b clk (V.map (·.2.2)).toArray _ clk (gn K p) (Ko _ (by rw[qap];exact JK)) hb1 (by simp;exact⟨p.1,p.2.1,p.2.2,hp,rfl⟩) (by
  have e:(es.map (gn K)).toArray.toList.map (·.born)=es.map (·.2.2):=by simp[gn,Function.comp_def]
  rw[e];exact h.born);exact this
theorem nJ {β:Type} [DecidableEq β]:∀(D xs:List β),xs.Nodup->(∀x∈xs,x∈D)->xs.length<=D.length
 |[],xs,_,h=>by
  cases xs with
  |nil=>simp
  |cons a r=>have:=h a (by simp);simp at this
 |d::D,xs,hn,h=>by
  have h1:=nJ D (xs.erase d) (hn.erase _) λx hx=>by
   have h2:=h x (List.mem_of_mem_erase hx);have h3:x≠d:=λe=>by
    subst e;exact(List.Nodup.not_mem_erase hn) hx
   simpa [h3]using h2
  have h4:=List.length_erase (a:=d) (l:=xs);simp only[aC];split at h4<;>omega
def jJ(hn:(V.map (·.2.2)).Nodup)(h:∀p∈V,p∈es):V.length<=es.length:=by
 have:=nJ (es.map (·.2.2)) (V.map (·.2.2)) hn (λx hx=>by
  obtain⟨p,hp,rfl⟩:=aQ.1 hx;exact aQ.2 ⟨p,h p hp,rfl⟩);simpa using this
end
section
variable {α:Type} [DecidableEq α]{K:α->bt}{P:Program}{w:bq}{b clk:Nat}{es:List (α×bt×Nat)}{mt kt et:TypeId}
omit [DecidableEq α] in
def eE {x:α}:cB es x=none↔x∉es.map (·.1):=by
 unfold cB;rw[Option.map_eq_none_iff,List.find?_eq_none];constructor
 .intro h hm;obtain⟨p,hp,rfl⟩:=aQ.1 hm;simpa using h p hp
 intro h p hp;have:x≠p.1:=λe=>h (e▸List.mem_map_of_mem hp);simpa using this
def nK(hn:(es.map (·.1)).Nodup){p:α×bt×Nat}(hp:p∈es):cB es p.1=some p.2.1:=by
 unfold cB;cases hf:es.find? (λq=>decide (p.1=q.1))with
 |none=>have:=List.find?_eq_none.1 hf p hp;simp at this
 |some q=>
  have h1:p.1=q.1:=by simpa using List.find?_some hf
  have:=VE hn hp (List.mem_of_find?_eq_some hf) h1;rw[this];rfl
def nM {x:α}(h:cB es x=some v):∃p∈es,p.1=x/\p.2.1=v:=by
 unfold cB at h;obtain⟨p,hp,rfl⟩:=Option.map_eq_some_iff.1 h;have h1:x=p.1:=by simpa using List.find?_some hp
 exact⟨p,List.mem_of_find?_eq_some hp,h1.symm,rfl⟩
def ED {β:Type}{l:List β}(hj:j<l.length){y:β}(h:l[j]=y):l.set j y=l:=by
 apply List.ext_getElem?;intro i;rw[List.getElem?_set];by_cases e:j=i
 .subst e;simp[hj,h]
 simp[e]
def fK.put(hm:P.underlying mt=some (.map kt et))(hF:l8 K P kt)(hchk:∀(e:Bool)(x:α)(w:bq),(Instr.checkKey e 10000 kt (K x)).run P w= .ok () w)(hst:∀x w,(Instr.keyThatStays (K x) (K x)).run P w= .ok (K x) w)
 (h:fK K w b es clk)(x:α)(v:bt):∃w' es' clk',(Instr.mapUpdate mt (.map (some b)) (K x) v).run P w= .ok () w'/\fK K w' b es' clk'/\(∀y,cB es' y=if y=x then some v else cB es y)/\es'.length<=es.length+1/\bh (λi=>i=b) w w':=by
 cases hv:cB es x with
 |none=>
  have⟨w',h1,h2,h3⟩:=cO.SO K hm hF hchk h.is_ x v hv;refine⟨w',_,_,h1,⟨h2,?_,λp hp=> ?_,?_⟩,λy=>uE y hv,by simp,h3⟩
  .rw[List.map_append,List.nodup_append];refine⟨h.born,by simp,λa ha c hc=> ?_⟩;obtain⟨p,hp,rfl⟩:=aQ.1 ha;have:=h.old p hp;simp at hc;omega
  .rcases aI.1 hp with hp|hp
   .have:=h.old p hp;omega
   simp at hp;subst hp;simp
  rw[List.map_append,List.nodup_append];refine⟨h.keys,by simp,λa ha c hc=> ?_⟩;simp at hc;subst hc;exactλe=>eE.1 hv (e▸ha)
 |some v0=>
  have hb:cX w b (.map (es.map (gn K)).toArray clk):=h.is_;cases hq:es.findIdx? λp=>decide (x=p.1)with
  |none=>
   have h2:=fV x es;rw[hq,hv]at h2;cases h2
  |some j=>
   have⟨hj,hj2,_⟩:=List.findIdx?_eq_some_iff_getElem.1 hq;have hxj:(es[j]).1=x:=(show x=(es[j]).1 by simpa using hj2).symm;have hky:(((es.map (gn K)).toArray[j]?).map (·.key)).getD (K x)=K x:=by
    simp[hj,gn,hxj]
   have hrun:(Instr.mapUpdate mt (.map (some b)) (K x) v).run P w= .ok () (w.putObj b (.map ((es.map (gn K)).toArray.modify j λe=>{e with key:=K x,val:=v}) clk)):=by
    simp only[Instr.mapUpdate,Sem.run_bind,run_underlying hm,Result.andThen_ok,MapKept.run_getObj_map hb,Sem.run_pure,hchk];rw[hF x es w,hq];simp only[Option.map_some,Nat.zero_add,Sem.run_bind,Result.andThen_ok];rw[hky,hst];simp[setObj,Sem.run,World.putObj,hb]
   have QV:(es.map (gn K)).toArray.modify j (λe=>{e with key:=K x,val:=v})=((es.set j (x,v,(es[j]).2.2)).map (gn K)).toArray:=by
    apply Array.ext_getElem?;intro i;rw[Array.getElem?_modify];by_cases hi:j=i
    .subst hi;simp[hj,gn]
    rw[if_neg hi];simp[hi]
   have hk1:(es.set j (x,v,(es[j]).2.2)).map (·.1)=es.map (·.1):=by
    rw[List.map_set];exact ED (by simpa using hj) (by simp[hxj])
   have hk2:(es.set j (x,v,(es[j]).2.2)).map (·.2.2)=es.map (·.2.2):=by
    rw[List.map_set];exact ED (by simpa using hj) (by simp)
   have QH:((es.set j (x,v,(es[j]).2.2)).map (·.1)).Nodup:=by rw[hk1];exact h.keys
   refine⟨_,es.set j (x,v,(es[j]).2.2),clk,hrun,⟨?_,by rw[hk2];exact h.born,λp hp=> ?_,QH⟩,λy=> ?_,by simp,(bh.refl (λi=>i=b) w).putObj (.inl rfl) _⟩
   .rw[QV];exact World.putObj_heap_same (ab.1 hb).1
   .rcases List.mem_or_eq_of_mem_set hp with hp|rfl
    .exact h.old p hp
    have:=h.old _ (List.getElem_mem hj);exact this
   by_cases hy:y=x
   .rw[if_pos hy,hy];exact nK QH (p:=(x,v,(es[j]).2.2)) (List.mem_set hj _)
   rw[if_neg hy];cases hu:cB es y with
   |none=>rw[eE,hk1];exact eE.1 hu
   |some u=>
    obtain⟨p,hp,rfl,rfl⟩:=nM hu;have⟨i,hi⟩:=aP hp;have hij:j≠i:=λe=>by subst e;rw[af hj]at hi;cases hi;exact hy hxj
    refine nK QH (ai (i:=i) ?_);rw[List.getElem?_set_ne hij];exact hi
end
end
section
open Go.RowKit
end
namespace Mk
open Go.RowKit
open Go.ChangeMaps (setBlock heap_setBlock_same heap_setBlock_other)
def tR(p:Int×Nat):MapEntry:=⟨xI p.1,xB true,p.2⟩
def Bc(w:bq)(b:Nat)(es:List (Int×Nat))(clk:Nat):Prop:=
 cX w b (.map (es.map tR).toArray clk)/\(es.map (·.1)).Nodup/\(es.map (·.2)).Nodup/\∀p∈es,p.2<clk
def eY(w:bq)(b:Nat)(S:List Int):Prop:=∃es clk,Bc w b es clk/\es.map (·.1)=S
theorem vB(x:Int):∀(es:List (Int×Nat))(i:Nat),Instr.findNow (.int .i64) x (es.map tR) i=some (if x∈es.map (·.1)then some (i+(es.map (·.1)).idxOf x,xB true)else none)
 |[],i=>by simp[Instr.findNow]
 |p::r,i=>by
  by_cases h:x=p.1
  .subst h;simp[Instr.findNow,tR,Instr.sameNow]
  have h':(x==p.1)=false:=by simpa using h
  have h2:(p.1==x)=false:=by simpa usingλe=>h e.symm
  have e:Instr.findNow (.int .i64) x ((p::r).map tR) i=Instr.findNow (.int .i64) x (r.map tR) (i+1):=by
   simp[Instr.findNow,tR,Instr.sameNow,h']
  rw[e,vB x r (i+1)];simp only[List.map_cons,aO,h,false_or,List.idxOf_cons,h2,cond_false];split<;>simp<;>omega
section
variable {w w':bq}{b:Nat}{S:List Int}{es:List (Int×Nat)}{clk:Nat}
def Bc.lt(h:Bc w b es clk):b<w:=(ab.1 h.1).1
def eY.lt(h:eY w b S):b<w:=by obtain⟨es,clk,h,_⟩:=h;exact h.lt
def eY.nodup(h:eY w b S):S.Nodup:=by obtain⟨es,clk,h,rfl⟩:=h;exact h.2.1
def Bc.same(h:Bc w b es clk)(hk:w'.heap[b]? =w.heap[b]?):Bc w' b es clk:=⟨hk.trans h.1,h.2⟩
def eY.same(h:eY w b S)(hk:w'.heap[b]? =w.heap[b]?):eY w' b S:=by obtain⟨es,clk,h,e⟩:=h;exact⟨es,clk,h.same hk,e⟩
def eY.made(w:bq):eY (w.alloc (.map #[] 0)) w []:=⟨[],0,⟨(MapKept.heap_alloc w _).1,by simp,by simp,by simp⟩,rfl⟩
def run_findKey(x:Int)(es:List (Int×Nat))(w:bq):(Instr.findKey 3 x (es.map tR)).run prog w= .ok (if x∈es.map (·.1)then some ((es.map (·.1)).idxOf x,xB true)else none) w:=by
 simp only[Instr.findKey,Sem.run_bind,run_underlying underlying3,Result.andThen_ok,vB x es 0,Nat.zero_add];rfl
def run_checkKey(e:Bool)(x:Int)(w:bq):(Instr.checkKey e 10000 3 x).run prog w= .ok () w:=by
 show(Instr.checkKey e (9999+1) 3 x).run prog w= .ok () w;rw[Instr.checkKey];simp only[Sem.run_bind,run_underlying underlying3,Result.andThen_ok];rfl
def Mv(w:bq):(zeroValue 4).run prog w= .ok false w:=by kernel_rfl
def eY.lookup(h:eY w b S)(x:Int):(Instr.lookup 96 (.map (some b)) x false).run prog w= .ok (xB (decide (x∈S))) w:=by
 obtain⟨es,clk,h,rfl⟩:=h;simp only[Instr.lookup,Sem.run_bind,run_underlying underlying96,Result.andThen_ok,MapKept.run_getObj_map h.1,Sem.run_pure,run_checkKey,run_findKey];by_cases hx:x∈es.map (·.1)
 .simp[hx]
 simp[hx,Mv]
def eY.store(h:eY w b S)(x:Int)(hx:x∉S):∃w',(Instr.mapUpdate 96 (.map (some b)) x true).run prog w= .ok () w'/\eY w' b (S++[x])/\bh (λi=>i=b) w w':=by
 obtain⟨es,clk,h,rfl⟩:=h;refine⟨setBlock w b (.map ((es++[(x,clk)]).map tR).toArray (clk+1)),?_,⟨es++[(x,clk)],clk+1,⟨heap_setBlock_same h.1 _,?_,?_,?_⟩,by simp⟩,⟨rfl,rfl,rfl,by simp[setBlock],λi _ hi=>heap_setBlock_other h.1 _ hi⟩⟩
 .simp only[Instr.mapUpdate,Sem.run_bind,run_underlying underlying96,Result.andThen_ok,MapKept.run_getObj_map h.1,run_checkKey,run_findKey,hx,if_false,MapKept.run_setObj_map _ h.1];simp[tR];rfl
 .rw[List.map_append,List.nodup_append];refine⟨h.2.1,by simp,?_⟩;intro a ha c hc;simp at hc;subst hc;rintro rfl;exact hx ha
 .rw[List.map_append,List.nodup_append];refine⟨h.2.2.1,by simp,?_⟩;intro a ha c hc;simp at hc;subst hc;obtain⟨p,hp,rfl⟩:=aQ.1 ha;have:=h.2.2.2 p hp;omega
 intro p hp;rcases aI.1 hp with hp|hp
 .have:=h.2.2.2 p hp;omega
 simp at hp;subst hp;simp
end
end Mk
end Go.Proofs.YtpjdjlnknfmfkaaGreatDoor
