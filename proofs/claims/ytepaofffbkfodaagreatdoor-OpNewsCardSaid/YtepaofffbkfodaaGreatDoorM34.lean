/- A part; no condition. -/
import Derived.Test.YtepaofffbkfodaaGreatDoorM29
import Derived.Test.YtepaofffbkfodaaGreatDoorM32
set_option linter.all false
set_option maxHeartbeats 8000000
set_option maxRecDepth 100000
namespace Go.Proofs.YtepaofffbkfodaaGreatDoor
open Go.Proofs.Tryz
open Go.RowKit Go.Shelf
variable{i K base B p b g:Nat}{vs:List aJ}{v fv sv cv:aA}{w W W' w0 W1 w1:ax}{M M' F:aV}{id:Int}{o0 o:Obj}{e t:TypeId}
section
attribute [local go_sem]Oper.semAt_some
def Md:aJ->List Int| .mk k n _ _=>if k=3\/k=4 then[n]else[]
def gz(l:List aJ):List Int:=l.flatMap Md
def qV {v:aJ}(h:vs[i]? =some v):gz (vs.take (i+1))=gz (vs.take i)++Md v:=by
 unfold gz;rw[Qbb,h,List.flatMap_append];simp
def Py {v:aJ}(h:vs[i]? =some v){n:Int}(hn:Md v=[n]):(gz vs)[(gz (vs.take i)).length]? =some n:=by
 have e:gz vs=gz (vs.take (i+1))++gz (vs.drop (i+1)):=by
  unfold gz;rw[<-List.flatMap_append,List.take_append_drop]
 rw[e,qV h,hn];simp
def It(k n:Int)(s:aY)(a:fx)(c:Nat)(hk:k≠3/\k≠4)(y:aA)(w:ax):xC 135 #[.agg #[k,n,s,xL a 0 c],y] w (cu true w):=by
 have h3:(k==3)=false:=by simpa using hk.1
 have h4:(k==4)=false:=by simpa using hk.2
 have HX:=ag (Bx.eI w (ej k n s (xL a 0 c)));clear hk;go_enter func135,ntmps135;go_upto_region 1 with fail;have⟨W1,hW1⟩:=bY (w.alloc (ej k n s (xL a 0 c)));rw[<-hW1]at HX;unfold ej at hW1;rw[<-hW1];clear hW1;have⟨c0,c1,c2,c3⟩:=af (HX.o.bO rfl);go_wp2;go_loopg [6,22]0(λgg _ iv wr=>gg=0/\iv=xI 0/\wr=W1);case atStart=>exact⟨rfl,rfl,rfl⟩
 case round=>
  obtain⟨rfl,rfl,rfl⟩:=hrel;go_wp2;go_ret;exact⟨rfl,HX.o.1⟩
def Me(k n:Int)(s:aY)(a:fx)(c:Nat)(hk:k=3\/k=4)(l:Nat)(W:ax)(R:Ending->ax->Prop)(hR:∀e w,R e w->∃b,e=xR (xB b))(hy:YieldAt Fence.wide 0 prog l #[n] (W.alloc (ej k n s (xL a 0 c))) R):
 CallsIn Fence.wide 0 prog 135 #[.agg #[k,n,s,xL a 0 c], .func (.yield l) #[] #[]] W R:=by
 have HX:=ag (Bx.eI W (ej k n s (xL a 0 c)));obtain⟨fn,tmps,assign,body,hy,hRR⟩:=hy;have HR:=ag hRR;have HE:=ag hR;clear hRR hR;refine callsIn_of_wp func135 rfl trivial ?_ rfl;simp only[ntmps135,List.size_toArray,Qcc,Qcd,Nat.reduceAdd,Nat.reduceSub,Array.replicate_succ,Array.replicate_zero,List.push_toArray,List.append_toArray,List.nil_append,List.cons_append];rcases hk with rfl|rfl;all_goals
  unfold ej at hy;gi_wp2_with fail;refine⟨rfl,HR.o.mono ?_⟩;rintro e W3 hr;obtain⟨b,rfl⟩:=HE.o e W3 hr;have FF:=ag hr;clear hr hy;gi_wp2_with fail;exact FF.o
def mm(a:fx)(n c:Nat)(w:ax):xC 64 #[xL a n c] w λe w'=>e=xR (.func (.func 134) #[] #[xP w.heap.size])/\w.alloc (xK #[xL a n c] 42)=w':=by
 have Cs:∀(fn:Fn)(au cap:Array aA)(w:ax),(Instr.makeFunc fn au cap).run prog w= .ok (.func fn au cap) w:=λ_ _ _ _=>rfl;go_enter func64,ntmps64;go_wp2;go_ret;exact⟨rfl,rfl⟩
def Pz(ns:List Int)(i:Nat)(args:Array aA)(j:Nat)(_:ax):Prop:=j=i+1/\∃n,ns[i]? =some n/\args= #[xI n]
def PA(vs:List aJ)(vN:∀v∈vs,og v)(M:aV)(p:Nat)(w0 w:ax)(hw:aC w0 w)(vv:aA)(hvs:ab M w0 vv vs)(hp:bW w p (xK #[vv] 42)):
 GA (β:=Nat) prog 134 #[xP p] w xF 0 0 (Pz (gz vs)) (λi=>i=(gz vs).length):=by
 intro J Jx W hz hb hJ TT hY h0;have HJ:=ag hJ;have HY:=ag hY;have Cv:=hw.size;have iy:p<w:=(Qaa.1 hp).1;have hp0:bJ W p 0 vv:=one_cell ((hb.block p iy).trans hp);have iW:Hd (aC w0 W/\w.heap.size+2<=W):=⟨hw.trans (hb.mono Cv),by omega⟩;have HC:Hd (∀(i:Nat)(k n:Int)(s:aY)(ll:List aJ),vs[i]? =some (.mk k n s ll)->_):=λi k n s ll hx=>dy hvs hx;have HNR:=ag vN;have SL:Hd (J (gz (vs.take 0)).length W):=h0;have Uh:=ag Cv;obtain⟨a,cj,rfl,cY,hmx,_⟩:=hvs.aq;clear hJ TT hY h0 hp hvs hb hw vN Cv;generalize hn:vs.length=n at*;have eJ:=ag hn;clear hn;refine callsIn_of_wp func134 rfl trivial ?_ rfl;simp only[ntmps134,List.size_toArray,Qcc,Qcd,Nat.reduceAdd,Nat.reduceSub,Array.replicate_succ,Array.replicate_zero,List.push_toArray,List.append_toArray,List.nil_append,List.cons_append];gi_wp2_with fail;gi_loopw [4,7](λ_ k wr=>∃i:Nat,k=xI i/\i<=n/\Hd (J (gz (vs.take i)).length wr)/\Hd (aC w0 wr/\w.heap.size+2<=wr))(λ_ k _=>n-(intOf k).toNat);case atStart=>exact⟨0,rfl,Qbf _,SL,iW⟩
 case round=>
  obtain⟨i,rfl,hi,Nh,HB⟩:=hrel;by_cases bH:i<n
  .have⟨⟨xk,xn,xs,xl⟩,hx⟩:=eG vs i (by rw[eJ.o];exact bH);have⟨b,off,cap,a',c',hv,hbl,hsl,hss,hcells⟩:=HC.o i xk xn xs xl hx;obtain⟨rfl,rfl⟩:=iY hv;have⟨⟨g0,g1,g2,g3⟩,_⟩:=hcells wr HB.o.1;obtain rfl:xl=[]:=by
    have⟨_,_,_,e⟩:=HNR.o _ (Qaf hx);cases e;rfl
   have⟨W1,hW1⟩:=bY (wr.alloc (xK #[xk,xn,xs,xL a' 0 c'] 44));have bz:=ag (show aC wr W1 by rw[hW1];exact bU);have bI:=ag (show CallsIn Fence.wide 0 prog 135 #[.agg #[xk,xn,xs,xL a' 0 c'], .func (.yield [w]) #[] #[]] W1 λe B=>(e=xR true/\J (gz (vs.take (i+1))).length B/\aC w0 B/\w.heap.size+2<=B)\/(e=xR false/\Jx B)by
    by_cases hk:xk=3\/xk=4
    .have hrf:Md (.mk xk xn xs [])=[xn]:=if_pos hk;have ht:=qV hx;rw[hrf]at ht;refine Me xk xn xs a' c' hk [w] W1 _ (λe B h=>h.elim (λh=>⟨_,h.1⟩) (λh=>⟨_,h.1⟩)) ?_;have hbv:aC wr (W1.alloc (ej xk xn xs (xL a' 0 c'))):=bz.o.alloc bz.o.size _;refine(HY.o (gz (vs.take i)).length #[xn] ((gz (vs.take i)).length+1) (W1.alloc (ej xk xn xs (xL a' 0 c'))) (HJ.o _ wr _ Nh.o (ao.az hbv)) ⟨rfl,_,Py hx hrf,rfl⟩).mono ?_;rintro e B(⟨rfl,Qs,vq⟩|h)
     .refine .inl ⟨rfl,?_,xp (HB.o.1.trans (hbv.mono HB.o.1.size)) vq (λ_ h=>h.elim) Uh.o,by have:=vq.size;have:=hbv.size;have:=HB.o.2;omega⟩;rw[ht,Qda];exact Qs
     .exact .inr h
    .have ht:=qV hx;rw[show Md (.mk xk xn xs [])=[]from if_neg hk,List.append_nil]at ht;rw[ht];refine(callsIn_wide.2 (It xk xn xs a' c' ⟨λh=>hk (.inl h),λh=>hk (.inr h)⟩ _ W1)).mono ?_;rintro e B⟨rfl,hb⟩;have hbv:aC wr B:=bz.o.trans (hb.mono bz.o.size);exact .inl ⟨rfl,HJ.o _ wr _ Nh.o (ao.az hbv),HB.o.1.trans (hbv.mono HB.o.1.size),by have:=hbv.size;have:=HB.o.2;omega⟩);dsimp only[List.length_nil]at g3;clear hv hcells hx hsl hss;subst hW1;gi_wp2_with fail;refine⟨trivial,rfl,bI.o.mono ?_⟩;rintro e W3(⟨rfl,Qs,hB3⟩|⟨rfl,Cw⟩)
   .have TU:=ag Qs;have bV:=ag hB3;clear Qs hB3 g0 g1 g2 g3;gi_wp2_with fail;go_roundw;case rel=>exact⟨i+1,by go_num,by omega,TU,bV⟩
    case measure=>simp[intOf];omega
   .have IX:=ag Cw;clear Cw g0 g1 g2 g3;gi_wp2_with fail;refine Qae (results_none rfl _ _ _) rfl ?_;exact⟨⟨_,rfl⟩, .inr IX.o⟩
  .obtain rfl:i=n:=by omega
   have hJe:=Nh.o;rw[Qah (by rw[eJ.o];exact bT)]at hJe;have HJE:=ag hJe;clear hJe;gi_wp2_with fail;refine bodyPost_end (results_none rfl _ _ _) rfl ?_;exact⟨⟨_,rfl⟩, .inl ⟨_,rfl,HJE.o⟩⟩
def Iu(vs:List aJ)(vN:∀v∈vs,og v)(M:aV)(p:Nat)(w0 w:ax)(hw:aC w0 w)(vv:aA)(hvs:ab M w0 vv vs)(hp:bW w p (xK #[vv] 42)){g:Operand}{ps:Array Tmp}{assign body:Code}{Q:Exit->Act->ax->Prop}{a:Act}
 (hps:ps.size=1)(hg:a.eval g= .func (.func 134) #[] #[xP p])
 (hround:∀(l:Nat)(n:Int)(W:ax),n∈gz vs->aC w W->w.heap.size+2<=W->
   assign.wpIn (Fence.wide.inRound l) 0 prog (Exit.then (λa1 W1=>aC W W1/\∀W2,ao (λi=>i=[w]) W1 W2->aC w W2->body.wpIn (Fence.wide.inRound l) 0 prog (Exit.then (λ_ B=>aC W2 B) (λ_ _ _=>False)) a1 W2) (λ_ _ _=>False))
    {tmps:=(ps.zip #[xI n]).foldl (λt(p,v)=>t.setIfInBounds p v) a.tmps,defers:=[]} W)
 (hdone:∀W,aC w W->dk W w (.deferred (some []))->Q .normal {a with defers:=Tk w::a.defers} W):(Code.rangeFunc g ps assign body).wp prog Q a w:=by
 refine wpIn_wide.1 (pV hg (enters_of func134 (by kernel_rfl) rfl) xF 0 0 (Pz (gz vs)) (λi=>i=(gz vs).length) (PA vs vN M p w0 w hw vv hvs hp) (λi args i' W h=>by obtain⟨_,n,_,rfl⟩:=h;exact hps.symm) (λi hi=>hi.elim)
  (λ(_:Nat)W=>aC w W) (λ_ _=>False) (λi A B h ho=>bq h h.size ho (λj hj=>hj.1)) (λc A B h _=>h) dS ?hround ?hdone ?hstop);case hstop=>intro c W h;exact h.elim
 case hround=>
  rintro l s args s' W hI⟨rfl,n,hn,rfl⟩hz;refine wpIn_mono (hround l n W (Qaf hn) hI hz) ?_;rintro e a1 W1 h;cases e with
  |normal=>
   refine⟨ao.az h.1,λW2 ho hz2=>wpIn_mono (h.2 W2 ho (bq (hI.trans (h.1.mono hI.size)) (Qcg hI.size h.1.size) ho (λi hi=>by have hi:i=[w]:=hi;omega))) ?_⟩;have bE:aC w W2:=bq (hI.trans (h.1.mono hI.size)) (Qcg hI.size h.1.size) ho (λi hi=>by have hi:i=[w]:=hi;omega);rintro e a3 W3 h3;cases e with
   |normal=>exact⟨ao.az h3,bE.trans (h3.mono bE.size)⟩
   |ret=>exact h3.elim
   |exit id=>exact h3.elim
   |goto t=>exact h3.elim
   |panic ch=>exact h3.elim
   |outgrown=>exact h3.elim
  |ret=>exact h.elim
  |exit id=>exact h.elim
  |goto t=>exact h.elim
  |panic ch=>exact h.elim
  |outgrown=>exact h.elim
 case hdone=>exactλs W _ hb hd=>hdone W hb hd
def Vk(vs:List aJ)(vN:∀v∈vs,og v)(hno:gz vs=[])(M:aV)(p:Nat)(w0 w:ax)(hw:aC w0 w)(vv:aA)(hvs:ab M w0 vv vs)(hp:bW w p (xK #[vv] 42)){g:Operand}{ps:Array Tmp}{assign body:Code}{Q:Exit->Act->ax->Prop}{a:Act}
 (hps:ps.size=1)(hg:a.eval g= .func (.func 134) #[] #[xP p])(hdone:∀W,aC w W->dk W w (.deferred (some []))->Q .normal {a with defers:=Tk w::a.defers} W):(Code.rangeFunc g ps assign body).wp prog Q a w:=
 Iu vs vN M p w0 w hw vv hvs hp hps hg (λl n W hn=>by rw[hno]at hn;cases hn) hdone
end
structure pF where
 an:Int
 id:Int
 cL:aY
 ai:aY
 aZ:List aJ
 Cj:aI
abbrev ET(o:pF)(vv df:aA):List aA:=[xI o.an,xI o.id,xS o.cL,xS o.ai,xI 0,xI 0,"",(),vv,xS o.Cj.ai,df,xI 0,"","","",xI 0,xI 0,"",""]
def AT(o:pF)(vv df:aA):Prop:=(o.aZ=[]->vv=())/\(o.Cj.ah=[]->df=())
instance:aD pF where
 size:=19
 rep:=λM w cs o=>∃vv df,cs=ET o vv df/\ab M w vv o.aZ/\ab M w df o.Cj.ah/\AT o vv df
 len:=λ⟨_,_,h,_⟩=>by rw[h];rfl
 flat:=λ⟨_,_,h,h1,h2,_⟩u hu=>by
  rw[h]at hu;simp at hu;rcases hu with rfl|rfl|rfl|rfl|rfl|rfl|rfl|rfl|rfl|rfl|rfl|rfl|rfl|rfl|rfl|rfl|rfl|rfl|rfl;all_goals first|rfl|exact eT h1|exact eT h2
 ev:=λ⟨vv,fv,h,h1,h2,h3⟩k=>⟨vv,fv,h,h1.ev k,h2.ev k,h3⟩
def PB {l:List pF}(h:ab M w v l){r:pF}(hr:l[i]? =some r):∃b off cap vv fv,v=xL (some ⟨b,off,none⟩) l.length cap/\ab M w vv r.aZ/\ab M w fv r.Cj.ah/\AT r vv fv/\∀W,aC w W->W.rangeAt b (off+i*19) (ET r vv fv):=by
 obtain⟨a,cap,rfl,hl,_,hc⟩:=h.aq;have hk:=(Qad.1 hr).1;obtain⟨b,off,rfl,_,hb,hcell⟩:=hc (by omega);obtain⟨cs,⟨vv,fv,rfl,hs,hf,hzv⟩,hcs⟩:=hcell i _ hr;refine⟨b,off,cap,vv,fv,rfl,hs,hf,hzv,λW hB j u hu=> ?_⟩;exact(hB.cell (p:=⟨b,off+i*19+j,none⟩) hb).trans (hcs j u hu)
def kp {ops:Array Oper}{rest:List Oper}{op:Oper}{a:Act}{Q:Exit->Act->ax->Prop}(hw:Region.wanted op (yielded ops a.tmps)=true)(x:Operand)(ho:op.op= .load 53 x)(b o:Nat)(hx:a.eval x= .pointer (b,o)){r:pF}{vv:aA}(h:w.rangeAt b o (ET r vv fv))
 (hk:wpList prog ops Q rest (a.put op.dst (yr r.an r.id r.cL r.ai vv r.Cj.ai fv)) w):wpList prog ops Q (op::rest) a w:=
 wpList_step λK hK=>by rw[if_pos hw];exact wp_load_mid 53 x ho b o hx _ _ h underlying53 rfl B8 (hK _ _ hk)
def zOp:Obj:=gU 0 0 () () () () ()
def lC {ops:Array Oper}{rest:List Oper}{op:Oper}{a:Act}{Q:Exit->Act->ax->Prop}(hg:op.guard=none)(x y:Operand)(ho:op.op= .store 53 x y)(hx:a.eval x=xP w){k:Int}{c n:aY}{vv:aA}{dn:aY}{df:aA}(hy:a.eval y=yr k id c n vv dn df)(h1:vv.oneCell'=true)(h2:df.oneCell'=true)
 (h:∀W,Hd (dk W w (gU k id c n vv dn df))->Hd (aC w W)->wpList prog ops Q rest (a.put op.dst undef) W):wpList prog ops Q (op::rest) a (w.alloc zOp):=
 fX hg x y ho _ hx hy h1 h2 (Qbh w zOp) λW k1 k2=>h W k1 (bq ((Qbg _ w).alloc bT zOp) (by simp) k2 λi hi=>by have hi:i=w:=hi;omega)
def madeOf(l:List pF):Nat:=(l.filter (λo=>decide (o.an=1))).length
def Mf {l:List pF}{o:pF}(h:l[i]? =some o):madeOf (l.take (i+1))=madeOf (l.take i)+(if o.an=1 then 1 else 0):=by
 unfold madeOf;rw[Qbb,h,List.filter_append,Qda];by_cases hk:o.an=1<;>simp[hk]
def JS(l:List pF):madeOf l<=l.length:=List.length_filter_le _ _
def Cb(l:List pF)(i:Nat):madeOf (l.take i)<=l.length:=Qcg (JS _) (by simp;omega)
def tY(M:aV)(w:ax)(o:pF):Prop:=∀(W:ax)(vv df:aA),aC w W->ab M W vv o.aZ->ab M W df o.Cj.ah->AT o vv df->xC 15 #[yr o.an o.id o.cL o.ai vv o.Cj.ai df] W (cu true W)
def Vl(r:Nat):Deferred:={target:= .collected r,args:= #[]}
structure Tu(w:ax)(o0:Obj)(K:Nat)(m:Int)(ds:List Deferred)(W:ax):Prop where
 bx:Bx w [o0] W
 cnt:W.heap[K]? =some (ei 3 m)
 marks:∃rs:List Nat,ds=rs.map Vl/\rs.Nodup/\∀r∈rs,K<r/\W.heap[r]? =some (.deferred (some []))
theorem Tu.ae {m:Int}{ds:List Deferred}(h:Tu w o0 K m ds W)(hb:aC W W'):Tu w o0 K m ds W':=by
 have⟨rs,h1,h2,h3⟩:=h.marks;exact⟨h.bx.ae hb,(hb.block _ (Qaa.1 h.cnt).1).trans h.cnt,rs,h1,h2,λr hr=>⟨(h3 r hr).1,(hb.block _ (Qaa.1 (h3 r hr).2).1).trans (h3 r hr).2⟩⟩
theorem Tu.mark {m:Int}{ds:List Deferred}(h:Tu w o0 K m ds W)(hb:aC W W')(hd:W'.heap[W.heap.size]? =some (.deferred (some []))):Tu w o0 K m (Tk W::ds) W':=by
 have h':=h.ae hb;have⟨rs,h1,h2,h3⟩:=h.marks;have⟨rs',h1',h2',h3'⟩:=h'.marks;have e:rs'=rs:=by
  have h9:rs'.map Vl=rs.map Vl:=by rw[<-h1',h1]
  have qei:∀(a b:List Nat),a.map Vl=b.map Vl->a=b:=λa=>by
   induction a with
   |nil=>intro b hb;cases b with
    |nil=>rfl
    |cons x y=>simp at hb
   |cons x y ih=>intro b hb;cases b with
    |nil=>simp at hb
    |cons x' y'=>
     rw[List.map_cons,List.map_cons,List.cons.injEq]at hb;have:x=x':=by have:=hb.1;unfold Vl at this;simpa using this
     rw[this,ih y' hb.2]
  exact qei _ _ h9
 have hK:=(Qaa.1 h.cnt).1;refine⟨h'.bx,h'.cnt,W.heap.size::rs,by rw[List.map_cons,<-h1];rfl,List.nodup_cons.2 ⟨λhr=> ?_,h2⟩,λr hr=> ?_⟩
 .have:=(Qaa.1 (h3 _ hr).2).1;omega
 .rcases Qdf.1 hr with rfl|hr
  .exact⟨hK,hd⟩
  .exact h3' r (by rw[e];exact hr)
theorem sO {F:Fence}{n:Nat}{P:Program}{fn:Func}{tmps:Array aA}{R:Ending->ax->Prop}(hv:∀W,(results fn tmps).run P W= .ok v W){z:Nat}:∀{rs:List Nat}{W:ax},rs.Nodup->(∀r∈rs,z<=r/\bW W r (.deferred (some [])))->z<=W->(∀W',Below z W W'->R (xR v) W')->LeavesInM F n P fn tmps R (rs.map Vl) .returning W
 |[],W,_,_,_,hR=>⟨v,hv W,hR W dS⟩
 |r::rs,W,hn,hr,hz,hR=>by
  have h1:=hr r List.mem_cons_self;refine⟨by simp, .inl ⟨r,_,rfl,run_takeDeferred h1.2,?_⟩⟩;have ho:ao (λi=>i=r) W (W.putObj r (.deferred none)):=(ao.refl (λi=>i=r) W).putObj (.inl rfl) _;have hb:Below z W (W.putObj r (.deferred none)):=bq (Qbg _ W) hz ho (λi hi=>by have hi:i=r:=hi;omega);refine sO hv (List.nodup_cons.1 hn).2 (λq hq=>⟨(hr q (List.mem_cons_of_mem _ hq)).1,?_⟩) (Qcg hz hb.size) (λW' hb'=>hR W' (hb.trans hb'));have TR:=(hr q (List.mem_cons_of_mem _ hq)).2;have hne:q≠r:=λe=>(List.nodup_cons.1 hn).1 (by rw[<-e];exact hq);exact(ho.block q (Qaa.1 TR).1 hne).trans TR
def PC(w:ax):ab xF (w.alloc (xK iE 44)) (xL (w,0) 1 1) [aJ.mk 0 0 () []]:=by
 refine⟨[[xI 0,xI 0,"",()]],(cF w iE 44 4 rfl (F:=λi=>¬False) (λh=>h)),rfl,λi cs x hc hx=> ?_⟩;cases i with
 |succ i=>simp at hx
 |zero=>
  simp at hc hx;subst hc;subst hx;exact eU.iff.2 ⟨_,rfl,ab.nil _ _,jQ⟩
def yu(l:List pF):Prop:=∀o∈l,(-(madeOf l:Int)<=o.id/\o.id<=100000)/\(∀v∈o.aZ,og v)/\∀n∈gz o.aZ,-(madeOf l:Int)<=n/\n<=100000
def EU(l:List pF):Prop:=∃o,l[0]? =some o/\o.id< -(madeOf l:Int)/\-100000<=o.id
def PD {l:List pF}(h:yu l)(hb:EU l):False:=by
 obtain⟨o,ho,h1,_⟩:=hb;have:=(h o (Qaf ho)).1.1;omega
def PE(nx:Int)(re:0<=nx/\nx<=200000)(l:List pF)(hl:l.length<=20)(M:aV)(w:ax)(lv ov rv qv:aA)(js:∃a n c,lv=xL a n c)(kM:∃a n c,ov=xL a n c)(iM:∃a n c,rv=xL a n c)(hq:ab M w qv l)(hR:∀o∈l,tY M w o)(yX:madeOf l=0\/nx+madeOf l-1<=100000)(hid:yu l\/EU l):
 xC 27 #[.agg #[lv,ov,rv,nx],qv] w λe w'=>((yu l/\e=xR (madeOf l))\/(EU l/\e= .panicked (yt 170)))/\aC w w':=by
 have Cr:Hd (∀W,aC w W->∀i r,l[i]? =some r->_):=λW hb i r hr=>PB (hq.ae hb) hr;have FF:=ag hR;have qej:=ag hid;have HMD:=ag yX;have TK:=ag (Cb l);obtain⟨la,m1,lc,rfl⟩:=js;obtain⟨oa,m2,oc,rfl⟩:=kM;obtain⟨ra,m3,rc,rfl⟩:=iM;obtain⟨qa,qc,rfl,hqc,hqm,-⟩:=hq.aq;have J3:=ag (qg 170);have HUB:=ag (AR 170);clear hq hR hid yX;generalize hn:l.length=n at*;have v8:=ag hn;clear hn;have cI:=ag (Bx.eI w (cT (xL la m1 lc) (xL oa m2 oc) (xL ra m3 rc) nx));have hle:((n:Int)<=20):=by omega
 refine callsIn_wide.1 (callsIn_of_wp_marks (n:=0) func27 rfl trivial (wpIn_wide.2 ?_) rfl);simp only[ntmps27,List.size_toArray,Qcc,Qcd,Nat.reduceAdd,Nat.reduceSub,Array.replicate_succ,Array.replicate_zero,List.push_toArray,List.append_toArray,List.nil_append,List.cons_append];go_upto_region 1 with fail;have⟨W0,hW0⟩:=bY (w.alloc (cT (xL la m1 lc) (xL oa m2 oc) (xL ra m3 rc) nx));rw[<-hW0]at cI;unfold cT at hW0;rw[<-hW0];clear hW0;go_wp2_with fail;refine(J3.o _).mono ?_;rintro e W0a⟨rfl,rfl⟩;go_upto_region 3 with fail;have⟨W1,hW1⟩:=bY (W0a.alloc (ei 3 (xI 0)));have bz:=ag (show Bx w [cT (xL la m1 lc) (xL oa m2 oc) (xL ra m3 rc) nx] W1 by rw[hW1];exact cI.o.alloc _);have fp:=ag (show dk W1 W0a (ei 3 (xI 0))by rw[hW1];exact Qbh W0a _);have Ni:Hd (w.heap.size+1<=W0a):=cI.o.bQ;unfold ei at hW1;rw[<-hW1];clear hW1;generalize hKK:W0a.heap.size=K at*;have fp:=ag (show bW W1 K (ei 3 (xI 0))by first|exact fp.o|(rw[<-hKK];exact fp.o));clear hKK;have ia:Hd (Bx w [cT (xL la m1 lc) (xL oa m2 oc) (xL ra m3 rc) nx] W1/\bW W1 K (ei 3 (xI (madeOf (l.take 0):Int)))):=⟨bz.o,fp.o⟩;go_wp2;go_loopg [7,18]n(λgg _ iv wr=>∃i:Nat,gg=n-i/\i<=n/\iv=xI i/\Hd (Bx w [cT (xL la m1 lc) (xL oa m2 oc) (xL ra m3 rc) nx] wr/\bW wr K (ei 3 (xI (madeOf (l.take i):Int)))));case atStart=>exact⟨0,rfl,Qbf _,rfl,ia⟩
 case round=>
  obtain⟨i,rfl,hi,rfl,HS⟩:=hrel;rename World=>wr;by_cases bH:i<n
  .have⟨o,ho⟩:=eG l i (by have:=v8.o;omega);have⟨b,off,cap,vv,df,hv1,hvv,hdf,hzv,hrg⟩:=Cr.o wr HS.o.1.1 i o ho;obtain⟨rfl,rfl⟩:=iY hv1;have uu:=ag (hrg wr dS);have Rh:=gQ (w:=wr) (λW hb=>FF.o o (Qaf ho) W vv df (HS.o.1.1.trans (hb.mono HS.o.1.1.size)) (hvv.ae hb) (hdf.ae hb) hzv);have hmt:=Mf ho;obtain⟨va,vc,rfl,-⟩:=hvv.aq;obtain⟨da,dc,rfl,-⟩:=hdf.aq;have HMT:=ag hmt;have Xt:=TK.o i;clear hv1 hvv hdf hzv hrg hmt;generalize o.aZ.length=vn at*;generalize o.Cj.ah.length=dn at*;go_upto_region 5 with fail;iterate 4 go_step
   refine kp rfl (.tmp 20) rfl b (off+i*19) rfl uu.o ?_;iterate 3 go_step
   refine lC rfl (.tmp 7) (.tmp 21) rfl rfl rfl rfl rfl λW3 ky bV=> ?_;go_upto_region 6 with fail;go_wp2_with(refine dC rfl (.tmp 7) rfl wr rfl ky.o ?_);refine(Rh.o _ bV.o).mono ?_;rintro e w5⟨rfl,iL⟩;have lE:Hd (dk w5 wr (gU o.an o.id o.cL o.ai (xL va vn vc) o.Cj.ai (xL da dn dc))):=(iL.block _ (Qaa.1 ky.o).1).trans ky.o;have iU:Hd (aC wr w5):=bV.o.trans (iL.mono bV.o.size);have Cx:Hd (bW w5 K (ei 3 (xI (madeOf (l.take i):Int)))):=(iU.o.block _ (Qaa.1 HS.o.2).1).trans HS.o.2;have ot:=ag (HS.o.1.ae iU.o);clear iL;go_wp2_with fail;refine(J3.o _).mono ?_;rintro e w6⟨rfl,rfl⟩;have k0:=(bM lE.o).c0;by_cases hk:o.an=1
   .have Qc:=ag (show(madeOf (l.take (i+1)):Int)=(madeOf (l.take i):Int)+1 by have:=HMT.o;rw[if_pos hk]at this;omega);rw[hk]at k0;have HHK:=ag hk;clear hk;have g0:bJ w6 K 0 (xI (madeOf (l.take i):Int)):=by have h:=Cx.o;unfold ei at h;simp[World.cell?,h]
    have f0:w6.frozen? (K,0)=false:=by have h:=Cx.o;unfold ei at h;exact aj h 0
    have hmb:(madeOf (l.take i):Int)<=20:=by omega
    have hmc:(0:Int)<=(madeOf (l.take i):Int):=by omega
    have Qi:Hd (Bx w [cT (xL la m1 lc) (xL oa m2 oc) (xL ra m3 rc) nx] (w6.setCell (K,0) (xI ((madeOf (l.take i):Int)+1)))/\(w6.setCell (K,0) (xI ((madeOf (l.take i):Int)+1))).heap[K]? =some (ei 3 (xI (madeOf (l.take (i+1)):Int)))):=⟨ot.o.only ((ao.refl (λj=>j=K) w6).setCell (.inl rfl) _) (λj hj=>by have hj:j=K:=hj;have:=Ni.o;simp;omega),by
     rw[Qc.o];have h:=Cx.o;unfold ei at h⊢;have:=Qca w6 K 0 _ _ (xI ((madeOf (l.take i):Int)+1)) h;simpa using this⟩;generalize(madeOf (l.take i):Int)=md at*;go_wp2;go_roundg(n-(i+1));case measure=>omega
    case rel=>exact⟨i+1,rfl,by omega,by go_num,by first|exact Qi|(simpa [Qbe _ (show _ by omega)]using Qi)⟩
   .have Qc:=ag (show madeOf (l.take (i+1))=madeOf (l.take i)by have:=HMT.o;rw[if_neg hk]at this;omega);have Qi:Hd (Bx w [cT (xL la m1 lc) (xL oa m2 oc) (xL ra m3 rc) nx] w6/\bW w6 K (ei 3 (xI (madeOf (l.take (i+1)):Int)))):=⟨ot.o,by rw[Qc.o];exact Cx.o⟩;go_wp2;go_roundg(n-(i+1));case measure=>omega
    case rel=>exact⟨i+1,rfl,by omega,by go_num,Qi⟩
  .obtain rfl:i=n:=by omega
   have HMN:=ag (show(madeOf (l.take i):Int)=(madeOf l:Int)/\madeOf l<=i by
    have h1:=TK.o i;rw[Qah (by rw[v8.o];exact bT)]at h1⊢;exact⟨rfl,h1⟩);have Xt:(madeOf l:Int)<=20:=by have:=HMN.o.2;omega
   have qek:(0:Int)<=(madeOf l:Int):=by omega
   have A0:=ag (show bW wr K (ei 3 (xI (madeOf l:Int)))by rw[<-HMN.o.1];exact HS.o.2);have MK:=ag HS.o.1;have yX:=HMD.o;have⟨m,hm⟩:=jN ((madeOf l:Int));rw[hm]at Xt qek A0 yX;have g0:bJ wr K 0 m:=by have h:=A0.o;unfold ei at h;simp[World.cell?,h]
   obtain⟨-,-,-,b3⟩:=af (MK.o.bO rfl);have qgt:m=0\/nx+m-1<=100000:=by rcases yX with h|h<;>omega
   have yU:=ag hm;clear yX HS hm;go_upto_region 10 with fail;go_cut [41]from 31 to 75(λ_ wx=>wx=wr);case first=>
    by_cases V3:m=0
    .subst V3;go_wp2_with fail;go_at_call 63;refine(J3.o _).mono ?_;rintro e w6⟨rfl,rfl⟩;go_wp2;go_meet;exact rfl
    .have hme:(m==0)=false:=by simpa using V3
     have qgu:nx+m-1<=100000:=by omega
     clear qgt;go_wp2_with fail;go_at_call 63;refine(J3.o _).mono ?_;rintro e w6⟨rfl,rfl⟩;go_wp2;go_meet;exact rfl
   case rest=>
    obtain⟨_,rfl⟩:=hcut;go_wp2_with fail;have QL:Hd (Tu w (cT (xL la m1 lc) (xL oa m2 oc) (xL ra m3 rc) nx) K m [] wr):=⟨MK.o,A0.o,[],rfl,List.nodup_nil,λr hr=>by cases hr⟩;refine wp_loop_ghost_k (λk a W=>∃(j:Nat)(ds:List Deferred)(s9 TM s11 iv u45 u46 u47 u48 u49 u50 u51 u52 u53 u54 u55 u56 u57 u58 u59 u60 u61 u62 u63 u64 u65 u66 u67 u68 u69 u70 u71 u72 u73:aA),k=i-j/\j<=i/\iv=xI (j:Int)/\Hd (yu l\/(EU l/\j=0/\ds=[]))/\a={tmps:= #[.agg #[xL la m1 lc,xL oa m2 oc,xL ra m3 rc,xI nx],xL qa i qc,xP w.heap.size,undef,xI 0,xP K,undef,u7,undef,s9,TM,s11,xL qa i qc,xI (i:Int),xB true, .tuple #[],xL qa i qc,xI (i:Int),xI (i:Int),xB false,u20,u21,u22,u23,u24,u25,u26,u27,u28,u29,u30,u31,u32,u33,u34,u35,u36,u37,u38,u39,u40,u41,xL qa i qc,xI (i:Int),iv,u45,u46,u47,u48,u49,u50,u51,u52,u53,u54,u55,u56,u57,u58,u59,u60,u61,u62,u63,u64,u65,u66,u67,u68,u69,u70,u71,u72,u73,u74],defers:=ds}/\Hd (Tu w (cT (xL la m1 lc) (xL oa m2 oc) (xL ra m3 rc) nx) K m ds W)) i ⟨0,[],_,_,_,_,_,_,_,_,_,_,_,_,_,_,_,_,_,_,_,_,_,_,_,_,_,_,_,_,_,_,_,_,_,rfl,Qbf _,rfl,ag (qej.o.imp_right λh=>⟨h,rfl,rfl⟩),rfl,QL⟩ ?_;rintro gk a2 wq⟨j,ds,s9,TM,s11,iv,u45,u46,u47,u48,u49,u50,u51,u52,u53,u54,u55,u56,u57,u58,u59,u60,u61,u62,u63,u64,u65,u66,u67,u68,u69,u70,u71,u72,u73,rfl,hj,rfl,HGB,rfl,HS⟩J2 K2 hJ2 hK2;by_cases bH:j<i
    .dsimp only;have hlq:=HS.o.bx.1;have⟨o,ho⟩:=eG l j (by have:=v8.o;omega);obtain⟨b,off,cap,vv,df,hv1,hvv,hdf,-,hrg⟩:=Cr.o wq hlq j o ho;obtain⟨rfl,rfl⟩:=iY hv1;have uu:=ag (hrg wq dS);have Ui:=ag hvv;have HO:=ag ho;obtain⟨va,vc,rfl,-⟩:=hvv.aq;obtain⟨da,dc,rfl,-⟩:=hdf.aq;clear hv1 hvv hdf hrg ho hlq;generalize hvn:o.aZ.length=vn at*;have HVN:=ag hvn;clear hvn;generalize o.Cj.ah.length=dn at*;go_upto_region 13 with fail;iterate 4 go_step
     refine kp rfl (.tmp 46) rfl b (off+j*19) rfl uu.o ?_;iterate 3 go_step
     refine lC rfl (.tmp 9) (.tmp 47) rfl rfl rfl rfl rfl λW3 ky bV=> ?_;obtain⟨k0,k1,k2,k3,k4,k5,k6,k7,k8,k9,k10,-,-,-,-,-,-,-,-⟩:=bM ky.o;have jL:=ag (HS.o.ae bV.o);have cK:bJ W3 K 0 m:=by have h:=jL.o.cnt;unfold ei at h;simp[World.cell?,h]
     go_upto_region 14 with fail;rcases HGB.o with hG|⟨hB,rfl,rfl⟩;rotate_left
     .have CG:=ag hB;obtain⟨o',ho',iK,qfe⟩:=hB;obtain rfl:o'=o:=Option.some.inj (ho'.symm.trans HO.o);rw[yU.o]at iK;clear ho';go_wp2_with fail;go_at_call 63;rw[show decide (-m<=o'.id)=false from by simp;omega];refine(HUB.o _).mono ?_;rintro e w6⟨rfl,rfl⟩;exact⟨.inr ⟨CG.o,rfl⟩,jL.o.bx.1⟩
     have HGG:=ag hG;have HNV:=ag (show(∀v∈o.aZ,og v)/\∀n∈gz o.aZ,-m<=n/\n<=100000 by rw[<-yU.o];exact(hG o (Qaf HO.o)).2);obtain⟨hge,hgl⟩: -m<=o.id/\o.id<=100000:=by have h:=(hG o (Qaf HO.o)).1;rw[yU.o]at h;exact h
     clear hG;go_wp2_with fail;go_at_call 63;refine(J3.o _).mono ?_;rintro e w6⟨rfl,rfl⟩;go_wp2_with fail;refine(mm _ 1 1 _).mono ?_;rintro e w8⟨rfl,rfl⟩;have⟨W4,hW4⟩:=bY ((w6.alloc (xK #[xI 0,xI 0,"",()] 44)).alloc (xK #[xL (w6,0) 1 1] 42));have ek:=ag (show aC w6 W4 by rw[hW4];exact bU.alloc (by simp) _);have Nj:=ag (show bW W4 [w6] (xK #[xL (w6,0) 1 1] 42)by rw[hW4];have:=Qbh (w6.alloc (xK #[xI 0,xI 0,"",()] 44)) (xK #[xL (w6,0) 1 1] 42);simpa using this);have Rf:=ag (show ab xF W4 (xL (w6,0) 1 1) [aJ.mk 0 0 () []]by rw[hW4];exact(PC w6).ae bU);rw[<-hW4];clear hW4 k0 k1 k2 k3 k4 k5 k6 k7 k8 k9 k10 cK;have oq:=ag (jL.o.ae ek.o);go_wp2_with fail;refine Vk [aJ.mk 0 0 () []] (λv hv=>by rw[Qea.1 hv];exact⟨_,_,_,rfl⟩) rfl xF [w6] W4 W4 dS _ Rf.o Nj.o rfl rfl ?_;intro W5 iL hd5;have ot:=ag (oq.o.mark iL hd5);have iU:=ag ((bV.o.trans (ek.o.mono bV.o.size)).trans (iL.mono (Qcg bV.o.size ek.o.size)));have lE:Hd (dk W5 wq (gU o.an o.id o.cL o.ai (xL va vn vc) o.Cj.ai (xL da dn dc))):=(iL.block _ (by have:=(Qaa.1 ky.o).1;have:=ek.o.size;omega)).trans ((ek.o.block _ (Qaa.1 ky.o).1).trans ky.o);have k8:=(bM lE.o).c8;clear iL hd5;go_simp;go_wp2_with fail;refine(mm va vn vc _).mono ?_;rintro e w8⟨rfl,rfl⟩;have⟨W6,hW6⟩:=bY (W5.alloc (xK #[xL va vn vc] 42));have kE:=ag (show aC W5 W6 by rw[hW6];exact bU);have HP6:=ag (show dk W6 W5 (xK #[xL va vn vc] 42)by rw[hW6];exact Qbh W5 _);rw[<-hW6];clear hW6 k8;have S5:Hd (ab M W6 (xL va vn vc) o.aZ):=Ui.o.ae (iU.o.trans (kE.o.mono iU.o.size));have ux:=ag (ot.o.ae kE.o);go_wp2_with fail;refine Iu o.aZ HNV.o.1 M W5 W6 W6 dS _ S5.o HP6.o rfl rfl ?_ ?_
     .intro lq n W hn hbW hzW;have MI:=HNV.o.2 n hn;obtain⟨hn1,hn2⟩:=MI;gi_wp2_with(rw[Oper.semAt_eq _ _ _ (λc h=>by cases h)];go_simp;try go_bits);refine⟨dS,λWb hob hbb=> ?_⟩;have cK:bJ Wb K 0 m:=by have h:=(ux.o.ae hbb).cnt;unfold ei at h;simp[World.cell?,h]
      clear hob hbb;gi_wp2_with(rw[Oper.semAt_eq _ _ _ (λc h=>by cases h)];go_simp;try go_bits);refine⟨trivial,rfl,(CallsIn.inRound lq (callsIn_wide.2 (J3.o Wb))).mono ?_⟩;rintro e w9⟨rfl,rfl⟩;gi_wp2_with(rw[Oper.semAt_eq _ _ _ (λc h=>by cases h)];go_simp;try go_bits);exact dS
     intro W7 gP hd7;have zH:=ag (ux.o.mark gP hd7);clear gP hd7;go_simp;go_wp2_with fail;refine Handed.intro (i-(j+1)) (by omega) ?_;go_step;exact⟨j+1,_,_,_,_,_,_,_,_,_,_,_,_,_,_,_,_,_,_,_,_,_,_,_,_,_,_,_,_,_,_,_,_,_,_,rfl,by omega,by go_num,ag (.inl HGG.o),rfl,zH⟩
    .obtain rfl:j=i:=by omega
     have HGG:Hd (yu l):=HGB.o.elim (λh=>h) λh=>by
      obtain⟨⟨o,ho,_⟩,h0,_⟩:=h;have:=(Qad.1 ho).1;have:=v8.o;omega
     have c0:bJ wq K 0 m:=by have h:=HS.o.cnt;unfold ei at h;simp[World.cell?,h]
     go_wp2_with fail;obtain⟨rs,rfl,SF,Ug⟩:=HS.o.marks;have hlr:=MK.o;exact sO (v:=xI m) (z:=K+1) (λW=>by simp[results,results27,go_sem]) SF (λr hr=>⟨(Ug r hr).1,(Ug r hr).2⟩) (by have:=(Qaa.1 HS.o.cnt).1;omega) (λW' hb=>⟨.inl ⟨HGG.o,by rw[yU.o]⟩,HS.o.bx.1.trans (hb.mono (by have:=Ni.o;omega))⟩)
def PF(p q r s:Addr)(w:ax):
 CallsD prog 25 #[.pointer (some p), .pointer (some q), .pointer (some r), .pointer (some s)] .returning w λe u' w'=>e=xR (.tuple #[])/\u'= .returning/\w'=w:=by
 refine callsD_of_wpS func25 rfl λSU cs hu=> ?_;apply wpS_seq;apply wpS_region;simp[wpOpsS,go_sem,recoverD,hu,ntmps25,Exit.thenS];apply wpS_seq;apply wpS_region;simp[wpOpsS,go_sem,Exit.thenS];refine wpS_cond (t:=false) (by simp[Act.eval,Array.replicate]) ?_;simp only[Bool.false_eq_true,if_false];refine wpS_of_wp (wp_skip ?_);cases SU;simp_all[bodyPostS,results,results25]
def Mg(n:Int)(W:ax):(Instr.typeAssert (.iface 99 (.agg #[n])) 20 99 true).run prog W= .ok (.tuple #[.agg #[n],true]) W:=by kernel_rfl
def Mh(K:Nat)(n:Int)(w:World)(h0:w.heap[K]? =some (ei 55 ()))(h1:w.heap[K+1]? =some (ei 54 ()))(h2:w.heap[K+2]? =some (ei 3 (xI 0)))(h3:w.heap[K+3]? =some (ei 37 (xI 0))):
 CallsD prog 25 #[xP K,xP (K+1),xP (K+2),xP (K+3)] (.panicking (yt n)) w λe u' w'=>e=xR (.tuple #[])/\u'= .panicking [{v:= .iface 99 (.agg #[n]),recovered:=true}]/\w'.heap[K]? =some (ei 55 ())/\w'.heap[K+1]? =some (ei 54 ())/\w'.heap[K+2]? =some (ei 3 (xI 0))/\w'.heap[K+3]? =some (ei 37 n)/\ao (λi=>i=K\/i=K+1\/i=K+2\/i=K+3) w w':=by
 refine callsD_of_wpS func25 rfl λSU cs hu=> ?_;unfold yt at hu;apply wpS_seq;apply wpS_region;simp[wpOpsS,go_sem,recoverD,hu,ntmps25,Exit.thenS];have c0:w.cell? (K,0)=some (xL none 0 0):=by unfold ei at h0;simp[World.cell?,h0]
 have c1:w.cell? (K+1,0)=some (xL none 0 0):=by unfold ei at h1;simp[World.cell?,h1]
 have c2:w.cell? (K+2,0)=some (xI 0):=by unfold ei at h2;simp[World.cell?,h2]
 have c3:w.cell? (K+3,0)=some (xI 0):=by unfold ei at h3;simp[World.cell?,h3]
 have f0:w.frozen? (K,0)=false:=by unfold ei at h0;exact aj h0 0
 have f1:w.frozen? (K+1,0)=false:=by unfold ei at h1;exact aj h1 0
 have f2:w.frozen? (K+2,0)=false:=by unfold ei at h2;exact aj h2 0
 have f3:w.frozen? (K+3,0)=false:=by unfold ei at h3;exact aj h3 0
 have hta:=Mg n;refine wpS_of_wp ?_;simp only[Array.replicate_succ,Array.replicate_zero,List.push_toArray,List.append_toArray,List.nil_append,List.cons_append,List.setIfInBounds_toArray,List.set_cons_zero,List.set_cons_succ];have SL:=ag h0;clear h0;have HH1:=ag h1;clear h1;have HH2:=ag h2;clear h2;have HH3:=ag h3;clear h3;clear hu;go_upto_region 3 with fail;go_upto_region 5 with fail;have⟨W3,hW3⟩:=bY ((((w.setCell (K,0) ()).setCell (K+1,0) ()).setCell (K+2,0) (xI 0)).setCell (K+3,0) (xI 170));have uw:=ag (show ao (λi=>i=K\/i=K+1\/i=K+2\/i=K+3) w W3 by
  rw[hW3];exact((((ao.refl (λi=>i=K\/i=K+1\/i=K+2\/i=K+3) w).setCell (p:=⟨K,0,none⟩) (.inl (.inl rfl)) _).setCell (p:=⟨K+1,0,none⟩) (.inl (.inr (.inl rfl))) _).setCell (p:=⟨K+2,0,none⟩) (.inl (.inr (.inr (.inl rfl)))) _).setCell (p:=⟨K+3,0,none⟩) (.inl (.inr (.inr (.inr rfl)))) _);have one:∀(W:World)(i:Nat)(t:TypeId)(v u:Value),W.heap[i]? =some (ei t v)->(W.setCell (i,0) u).heap[i]? =some (ei t u):=λW i t v u h=>by
  have:=Qca W i 0 _ _ u h;simpa [ei]using this
 have Kj:∀(W:World)(i j:Nat)(u:Value),i≠j->(W.setCell (j,0) u).heap[i]? =W.heap[i]? :=λW i j u h=>Qag _ _ _ _ (by simpa using h);have G0:=ag (show W3.heap[K]? =some (ei 55 ())by
  rw[hW3,Kj _ K (K+3) _ (by omega),Kj _ K (K+2) _ (by omega),Kj _ K (K+1) _ (by omega)];exact one _ _ _ _ _ SL.o);have G1:=ag (show W3.heap[K+1]? =some (ei 54 ())by
  rw[hW3,Kj _ (K+1) (K+3) _ (by omega),Kj _ (K+1) (K+2) _ (by omega)];exact one _ _ _ _ _ ((Kj _ _ _ _ (by omega)).trans HH1.o));have G2:=ag (show W3.heap[K+2]? =some (ei 3 (xI 0))by
  rw[hW3,Kj _ (K+2) (K+3) _ (by omega)];exact one _ _ _ _ _ ((Kj _ _ _ _ (by omega)).trans ((Kj _ _ _ _ (by omega)).trans HH2.o)));have G3:=ag (show W3.heap[K+3]? =some (ei 37 (xI 170))by
  rw[hW3];exact one _ _ _ _ _ ((Kj _ _ _ _ (by omega)).trans ((Kj _ _ _ _ (by omega)).trans ((Kj _ _ _ _ (by omega)).trans HH3.o))));have zL:=ag (show W3.heap.size=w by rw[hW3];simp[World.setCell]);have um:Hd (K+3<w):=(Qaa.1 HH3.o).1;rw[<-hW3];clear hW3 c0 c1 c2 c3 f0 f1 f2 f3 hta;have⟨W4,hW4⟩:=bY (W3.alloc (xK #[n] 99));have ek:=ag (show aC W3 W4 by rw[hW4];exact bU);have e0:W4.cell? (w,0)=some (xI n):=by rw[hW4,<-zL.o];exact one_cell (Qbh W3 _)
 rw[<-hW4];clear hW4;have g3:=(ek.o.block (K+3) (by have:=um.o;have:=zL.o;omega)).trans G3.o;have c3:W4.cell? (K+3,0)=some (xI 170):=by have h:=g3;unfold ei at h;exact one_cell h
 have f3:W4.frozen? (K+3,0)=false:=by have h:=g3;unfold ei at h;exact aj h 0
 have VW:=ag g3;have qel:=ag one;have Xb:=ag Kj;clear g3 one Kj;go_wp2_with fail;have hk:=um.o;have hz:=zL.o;refine⟨rfl,_,rfl, .tuple #[],by simp[results,results25,go_sem],rfl,rfl,?_,?_,?_,qel.o _ _ _ _ _ VW.o,?_⟩
 .exact(Xb.o _ _ _ _ (by omega)).trans ((ek.o.block _ (by omega)).trans G0.o)
 .exact(Xb.o _ _ _ _ (by omega)).trans ((ek.o.block _ (by omega)).trans G1.o)
 .exact(Xb.o _ _ _ _ (by omega)).trans ((ek.o.block _ (by omega)).trans G2.o)
 .exact(uw.o.trans (ao.az ek.o)).setCell (p:=⟨K+3,0,none⟩) (.inl (.inr (.inr (.inr rfl)))) _
def yx {fn:Func}{tmps:Array aA}{R:Ending->ax->Prop}{fv:Fn}{cap Ul:Array aA}{n:Int}(h:Bx w [o0,ei 55 (),ei 54 (),ei 3 (xI 0),ei 37 (xI 0)] W)
 (hi:(invoke (.fn fv cap) Ul).run prog W= .ok (.enter 25 #[xP [w],xP [w,w],xP [w,w,w],xP (w.heap.size+1+1+1+1)]) W)
 (hr:∀W':ax,W'.cell? ([w],0)=some (xL none 0 0)->W'.cell? ([w,w],0)=some (xL none 0 0)->W'.cell? ([w,w,w],0)=some (xI 0)->W'.cell? (w.heap.size+1+1+1+1,0)=some (xI n)->(results fn tmps).run prog W'= .ok (.tuple #[(),(),xI 0,n]) W')
 (hR:∀W',aC w W'->R (xR (.tuple #[(),(),xI 0,n])) W'):
 Leaves prog fn tmps R [{target:= .fn fv cap,args:=Ul}] (.panicking (yt n)) W:=by
 refine leaves_cons (f:=25) (args:= #[xP [w],xP [w,w],xP [w,w,w],xP (w.heap.size+1+1+1+1)]) (by simp) hi ?_;refine(Mh [w] n W (h.cg rfl) (h.fB rfl) (h.Bv rfl) (h.Xn rfl)).mono ?_;rintro e u' w''⟨rfl,rfl,g0,g1,g2,g3,ho⟩;exact⟨_,hr w'' (one_cell g0) (one_cell g1) (one_cell g2) (one_cell g3),hR w'' (bq h.1 h.1.size ho (λi hi=>by omega))⟩
def mX {ops:Array Oper}{rest:List Oper}{op:Oper}{a:Act}{C:ax->Prop}{Q:Act->Prop}(hw:Region.wanted op (yielded ops a.tmps)=true)(x:Operand)(ho:op.op= .load 75 x)(b o:Nat)(hx:a.eval x= .pointer (b,o)){r:ec}{vv:aA}(h:∀w,C w->w.rangeAt b o (vE r vv fv))
 (hk:wpQuiet prog ops C Q rest (a.put op.dst (yg r vv fv))):wpQuiet prog ops C Q (op::rest) a:=
 BigFrame.wpQuiet_want hw λK hK=>⟨yg r vv fv,λw hc=>by
  unfold Oper.quietAt execOp;simp only[ho,hx,Instr.loadAt,Instr.sureAddr,Sem.run_bind,Sem.run_pure,Result.andThen_ok,run_loadVar_mid w b o 75 _ _ (h w hc) underlying75 rfl EO];exact⟨rfl,rfl⟩,hK _ hk⟩
structure Vq(r:ec):Prop where
 cQ:r.cQ=0
 cL:r.cL=⟨⟨#[]⟩,[]⟩
 pI:r.pI=Pv
 flat:∀y∈r.kD.aZ,og y
 few:r.kD.aZ.length<=20
def Ms(r:ec)(h:Vq r)(M:aV)(w:ax)(v u a b:aA)(hs:ab M w v r.kD.aZ)(hu:ab M w u r.kD.aZ)(ha:ab M w a r.cL.ah)(hb:ab M w b r.cL.ah):
 xC 40 #[yg r v a,yg r u b] w (cu true w):=by
 obtain⟨k,o,id,cQ,nm,cL,pI⟩:=r;obtain⟨h1,h2,h3,h4,h5⟩:=h;dsimp only at*;subst h1 h2 h3;obtain⟨aa,ac,rfl,-⟩:=ha.aq;obtain⟨ba,bc,rfl,-⟩:=hb.aq;exact Mr k o id nm h4 h5 M w v u aa ba ac bc hs hu
def E3(l:List ec)(hz:∀r∈l,Vq r)(M:aV)(w:ax)(v u:aA)(hs:ab M w v l)(hu:ab M w u l):
 xC 14 #[v,u] w (cu "" w):=by
 have HV:Hd (∀i r,l[i]? =some r->_):=λi r hr=>B5 hs hr;have HU:Hd (∀i r,l[i]? =some r->_):=λi r hr=>B5 hu hr;have HZ:=ag hz;obtain⟨a,cj,rfl,cY,hmx,_⟩:=hs.aq;obtain⟨ua,qe3,rfl,-⟩:=hu.aq;generalize hn:l.length=n at*;have HN:=ag hn;go_enter func14,ntmps14;go_wp2;go_loopg [4,5]n(λg r4 iv wr=>∃i:Nat,i<=n/\g=n-i/\iv=xI i/\r4= ""/\Hd (aC w wr));case atStart=>exact⟨0,Qbf _,rfl,rfl,rfl,ag dS⟩
 case round=>
  obtain⟨i,hi,rfl,rfl,rfl,HB⟩:=hrel;rename World=>wr;by_cases bH:i<n
  .have⟨r,hr⟩:=eG l i (by rw[HN.o];exact bH);have⟨b,off,cap,vv,fv,hv,h1,h2,hrg⟩:=HV.o i r hr;obtain⟨rfl,rfl⟩:=iY hv;have⟨b2,off2,cap2,vv2,fv2,hv2,g1,g2,hrg2⟩:=HU.o i r hr;obtain⟨rfl,rfl⟩:=iY hv2;have mZ:Hd (∀V,aC wr V->V.rangeAt b (off+i*18) (vE r vv fv)):=λV hb=>hrg V (HB.o.trans (hb.mono HB.o.size));have vI:Hd (∀V,aC wr V->V.rangeAt b2 (off2+i*18) (vE r vv2 fv2)):=λV hb=>hrg2 V (HB.o.trans (hb.mono HB.o.size));have J7:Hd (∀V,aC wr V->_):=λV hb=>Ms r (HZ.o r (Qaf hr)) M V vv vv2 fv fv2 (h1.ae (HB.o.trans (hb.mono HB.o.size))) (g1.ae (HB.o.trans (hb.mono HB.o.size))) (h2.ae (HB.o.trans (hb.mono HB.o.size))) (g2.ae (HB.o.trans (hb.mono HB.o.size)));have i0:(0:Int)<=(i:Int):=Qba _;have i1:(i:Int)<(n:Int):=by omega
   go_upto_region 6 with fail;go_cut [26](λs25 wx=>s25=xB false/\Hd (aC w wx));case first=>
    refine ir (by kernel_rfl) (by kernel_rfl) λι _ F jM yW=> ?_;have jq:=ag jM;have yL:=ag yW;iterate 3(go_big_quiet_step(fail))
    refine mX rfl (.tmp 19) rfl b (off+i*18) rfl (λw'⟨n,e⟩=>e▸mZ.o _ (jq.o n)) ?_;simp only[Act.put,List.setIfInBounds_toArray,List.set_cons_zero,List.set_cons_succ];iterate 3(go_big_quiet_step(fail))
    refine mX rfl (.tmp 23) rfl b2 (off2+i*18) rfl (λw'⟨n,e⟩=>e▸vI.o _ (jq.o n)) ?_;simp only[Act.put,List.setIfInBounds_toArray,List.set_cons_zero,List.set_cons_succ];repeat(go_big_quiet_step((go_at_call 40;refine cC (J7.o _ (jq.o _)) λw3 hb3=> ?_;exact⟨rfl,yL.o _ ((jq.o _).trans (hb3.mono (jq.o _).size))⟩)))
    refine wpQuiet_nil ?_;rintro _⟨nq,rfl⟩;go_wp2;go_meet;exact⟨rfl,ag (HB.o.trans ((jq.o _).mono HB.o.size))⟩
   case rest=>
    obtain⟨rfl,bV⟩:=hcut;go_wp2;go_roundg(n-(i+1));case measure=>omega
    case rel=>exact⟨i+1,by omega,rfl,by go_num,rfl,bV⟩
  .obtain rfl:i=n:=by omega
   go_wp2;go_ret;exact⟨rfl,HB.o⟩
def E4(ls:List aQ)(c:aI):Prop:=aX c=true/\dx ls c.ai= -1/\ls.length<8
def IC:(Tryz.prog.info? 72).map (λi=>(i.zero,i.size,i.bytes))=some (some (.agg #["",(),()]),3,64):=by kernel_rfl
def Mu {α:Type} [aD α]{t':TypeId}{xs:List α}{cs:Array Value}(h:aS M base e w v xs)(hK:w.heap[K]? =some (.cells cs t' (0,0)))(hne:e≠t'):∀g,v.ownBlock=some g->¬g=K:=by
 rintro g hg rfl;obtain⟨css,h1,_⟩:=h;rcases h1.2 with⟨h0,_⟩|⟨g',cap,cur,k1,k2,k3,_⟩
 .rw[h0]at hg;cases hg
 .rw[k1]at hg;obtain rfl:g'=g:=by simpa [Value.ownBlock]using hg
  rw[k3]at hK;cases hK;exact hne rfl
def tZ {P:Program}{α:Type} [aD α]{o:Oper}{a:Act}{ops:Array Oper}{K:Act->ax->Prop}{Q:Exit->Act->ax->Prop}{E:Prop}(hgd:o.guard=none)(s x:Operand)(t:TypeId)
 (ho:o.op= .call {callee:= .builtin .append,args:= #[s,x],argTypes:= #[t,t]})
 (M:aV)(base:Nat)(e:TypeId)(i:TypeInfo)(z:aA)(bytes:Nat)(ht:P.underlying t=some (.slice e))(hi:P.info? e=some i)(hz:i.zero=some z)
 (hsize:i.size=aD.size α)(hby:i.bytes=bytes)(hzs:z.cells.size=aD.size α)(hsz:0<aD.size α)
 (v:aA)(xs:List α)(hs:a.eval s=v)(hacc:aS M base e w v xs)
 (F:aV)(sv:aA)(cs:List aA)(y:α)(hx:a.eval x=sv)(hr:ct F w (aD.size α) sv 1 cs)(hy:aD.rep (bu v M) w cs y)
 (h63:xs.length+1<=maxLen)(hbytes:(xs.length+1)*bytes<=140737488355328)(hbase:base<=w)
 (h:∀a' c' w',aS M base e w' (xL a' (xs.length+1) c') (xs++[y])->w.grownBy w' v.ownBlock->Below base w w'->K (a.put o.dst (xL a' (xs.length+1) c')) w'):
 if Region.wanted o (yielded ops a.tmps)=true then Oper.wp P o a w K Q else E:=by
 have hw:Region.wanted o (yielded ops a.tmps)=true:=by simp[Region.wanted,hgd]
 rw[if_pos hw];obtain⟨css,h1,h2,h3⟩:=hacc;refine kj w s x t ho base e i z (aD.size α) bytes ht hi hz hsize hby hzs hsz v xs.length css.flatten hs h1 sv 1 cs hx hr (aD.flat hy) h63 hbytes hbase λv' w' k1 k2 k3=> ?_;obtain⟨a',c',rfl,_,_⟩:=fe k1;exact h a' c' w' (aS.snoc h2 h3 hy k1 k2 k3) k2 ((Qbg _ w).grown k2 hbase λk hk=>(h1.lt k hk).1)
def JW(ls:List aQ)(h:dF ls)(c:aI)(hok:E4 ls c)(hcn:c.ai.size<=maxLen)(M:Nat->Prop)(w:World)(hM:Bd M w)(hT:Tb w)(v fv:Value)(hs:ab M w v ls)(hf:ab M w fv c.ah):
 xC 85 #[.agg #[v], .agg #[c.ai,fv]] w λe w'=>∃a c',e=xR (.tuple #[.agg #[xL a (ls.length+1) c'],xI 0])/\ab M w' (xL a (ls.length+1) c') (ls++[⟨c,[]⟩])/\aC w w':=by
 have⟨i0,hi0,hz0,hz1,hz2⟩:=info_parts IC;have h8:=h.len;have CC:=gQ (w:=w) (λW hb=>mW ls h M W (hM.ae hb) (hT.ae hb) v (hs.ae hb));have HR:=gQ (w:=w) (λW hb=>ff M fv W c (hf.ae hb) hcn);rw[hok.1]at HR;have XO:=gQ (w:=w) (λW hb=>AF M v W ls c.ai (hs.ae hb) (by omega));have iD:Hd (∀W,aC w W->w.heap.size+3<=W->_):=λW hb hz=>od ls (by omega) (λy hy=>⟨by have:=((bC _).1 (h.aK y hy).au.right).2.1;omega,by have:=(h.aK y hy).len;omega⟩) (dX M w 3) W v (dt hM hz) (hs.ev (dj hb));have Ng:Hd (∀N W,Bd N W->Ev M w N W->_):=λN W hN he=>me c.ai c.ah (by have:=((dU c).1 hok.1).2.1;omega) N W fv hN (hf.ev he);obtain⟨va,vc,rfl,_⟩:=hs.aq;obtain⟨fa,fc,rfl,_⟩:=hf.aq;have Su:=ag hok;clear hs hf h hok;have lF:=ag hM;clear hM;go_enter func85,ntmps85;go_wp2_with fail;refine(CC.o _ (Bx.gj w _ _ _).1).mono ?_;rintro e w1⟨rfl,hb1⟩;have fp:=ag ((Bx.gj w (eW (xL va ls.length vc)) (cW c.ai (xL fa c.ah.length fc)) (eW ())).ae hb1);clear hb1;have a0:=one_cell (fp.o.bO rfl);have⟨c0,c1⟩:=ak (fp.o.cg rfl);have f0:=aj (fp.o.fB rfl) 0;have r0:=one_cell (fp.o.fB rfl);go_wp2_with fail;refine(HR.o _ fp.o.1).mono ?_;rintro e w2⟨rfl,bE⟩;have eZ:=ag (fp.o.ae bE);clear bE a0 c0 c1 f0 r0;have a0:=one_cell (eZ.o.bO rfl);have⟨c0,c1⟩:=ak (eZ.o.cg rfl);have f0:=aj (eZ.o.fB rfl) 0;have r0:=one_cell (eZ.o.fB rfl);go_wp2_with fail;refine(XO.o _ eZ.o.1).mono ?_;rintro e w3⟨⟨n,b,rfl,hfd⟩,hb3⟩;have ky:=ag (eZ.o.ae hb3);clear hb3 a0 c0 c1 f0 r0;have a0:=one_cell (ky.o.bO rfl);have⟨c0,c1⟩:=ak (ky.o.cg rfl);have f0:=aj (ky.o.fB rfl) 0;have r0:=one_cell (ky.o.fB rfl);have hok:=Su.o;have hl:=hok.2.2;obtain⟨rfl,rfl,_⟩:b=false/\n=0/\dx ls c.ai= -1:=by
  rcases hfd with⟨_,h1,h2⟩|h
  .have:=hok.2.1;omega
  .exact h
 clear hfd hok;go_wp2_with fail;have zL:Hd (w.heap.size+3<=w3):=(Qaa.1 (ky.o.fB rfl)).1;refine(iD.o _ ky.o.1 zL.o).mono ?_;rintro e w4⟨_,rfl,⟨v',rfl,hacc⟩,eA⟩;have nQ:=ag (ky.o.ae eA);have oq:Hd (w3.heap.size<=w4):=eA.size;obtain⟨sa,sc,rfl,_⟩:=hacc.aq;have HA:=ag hacc;clear eA hacc a0 c0 c1 f0 r0;go_upto_region 10 with fail;have⟨W5,hW5⟩:=bY (w4.alloc (eW (xL sa ls.length sc)));have lE:=ag (show Bx w _ W5 by rw[hW5];exact nQ.o.alloc _);have Cx:=ag (show W5.heap[w4.heap.size]? =some (eW (xL sa ls.length sc))by rw[hW5];exact Qbh w4 _);have Xf:=ag (show W5.heap.size=[w4]by rw[hW5];simp);have Wq:=ag (show aS (orM (dX M w 3) w4) w3 72 W5 (xL sa ls.length sc) ls by
  rw[hW5];exact((HA.o.le (Nat.le_add_right _ 2)).more λi hi=>hi.elim (λh=> .inl (.inl h)) (λh=> .inr (Nat.le_of_eq h.symm))).alloc _);rw[show w4.alloc (xK #[xL sa ls.length sc] 31)=W5 from hW5.symm];have Q4:Hd (∀i,(Value.slice sa ls.length sc).ownBlock=some i->i<w4.heap.size):=λi hi=>(HA.o.cG i hi).2;clear hW5 HA;have HBd:=ag (show Bd (orM (dX M w 3) w4) W5.drew by
  have h1:=zL.o;have h2:=oq.o;have h3:=Xf.o;rintro i((h|h)|h)
  .have:=lF.o i h;show i<W5;omega
  .show i<W5;omega
  .show i<W5;omega);have Nn:Hd (∀i,(Value.slice sa ls.length sc).ownBlock=some i->w3.heap.size<=i/\i<W5.heap.size):=λi hi=>Wq.o.cG i hi;have lM:=ag (Ng.o (bu (xL sa ls.length sc) (orM (dX M w 3) w4)) W5.drew (λi hi=>hi.elim (λh=>HBd.o i h) (λh=>(Nn.o i h).2)) ⟨ao.az lE.o.1.drew,λi hi=>by
  have h1:=zL.o;have h2:=oq.o;rcases hi with((h|h)|h)|h
  .exact .inl h
  .exact .inr h.1
  .exact .inr (by omega)
  .exact .inr (by have:=(Nn.o i h).1;omega)⟩);have k0:=one_cell Cx.o;have fk:=aj Cx.o 0;have⟨c0,c1⟩:=ak (lE.o.cg rfl);go_region_law(first
  |(go_simp;go_at_call 151;refine lM.o.mono ?_;rintro e w6⟨_,rfl,⟨f',rfl,TV⟩,jn⟩;obtain⟨ya,yc,rfl,_⟩:=TV.aq;have HSF:=ag TV;have kE:Hd (aC W5 w6):=((Qbg _ W5).drew.trans jn);have k6:=one_cell ((kE.o.block w4 (by have:=Xf.o;omega)).trans Cx.o);have n6:∀o,(w6.alloc o).cell? (w4,0)=some (xL sa ls.length sc):=λo=>bR _ _ _ k6;have Wc:=ag (show w3.heap.size<=w6/\w4.heap.size<w6 by have h1:=kE.o.size;have h2:=Xf.o;have h3:=oq.o;omega);clear jn TV)
  |(refine tZ (α:=aQ) rfl _ _ _ rfl (orM (dX M w 3) w4) w3 72 i0 _ 64 underlying29 hi0 hz0 hz1 hz2 rfl (by decide) (.slice sa ls.length sc) ls rfl ((Wq.o.ae kE.o).alloc _) (λ_=>True) _ _ (⟨c,[]⟩:aQ) rfl (cF _ _ _ _ rfl trivial) ⟨_,_,rfl,HSF.o.ae bU,ab.nil _ _,hcn⟩ (by unfold maxLen;omega) (by omega) (by have:=Wc.o.1;simp;omega) ?_;intro a2 c2 w7 bD hg7 gP;have lD:=ag bD;have mA:Hd (Below w3 w6 w7):=((Qbg _ w6).alloc Wc.o.1 _).trans gP;have FK:Hd (w7.heap[w4.heap.size]? =some (eW (xL sa ls.length sc))):=(hg7.block w4 (by have:=Wc.o.2;simp;omega) (λh=>Nat.lt_irrefl _ (Q4.o _ h.symm))).trans ((Qcb w6 _ w4 Wc.o.2).trans ((kE.o.block w4 (by have:=Xf.o;omega)).trans Cx.o));have k7:=one_cell FK.o;have f7:=aj FK.o 0;clear bD hg7 gP));all_goals
  have⟨W8,hW8⟩:=bY (w7.setCell (w4,0) (xL a2 (ls.length+1) c2));have HK8:=ag (show W8.heap[w4.heap.size]? =some (eW (xL a2 (ls.length+1) c2))by rw[hW8,Qca w7 _ 0 _ _ _ FK.o];rfl);have HO8:=ag (show ao (λi=>i=w4) w7 W8 by rw[hW8];exact(ao.refl (λi=>i=w4) w7).setCell (.inl rfl) _);have QE:=ag (show Below w3 W5 W8 by
   have h4:=oq.o;have h5:=Xf.o;rw[hW8];exact((kE.o.mono (by omega)).trans mA.o).setCell (by simpa using h4) _);have HR8:Hd (W8.heap[w.heap.size+1+1]? =some (eW ())):=(QE.o.block _ (by have:=zL.o;omega)).trans (lE.o.fB rfl);have HA8:=ag (lD.o.pA HO8.o (λi h=> .inr h) (Mu lD.o FK.o (by decide)));rw[<-hW8];clear k7 f7 k6 n6 k0 fk c0 c1 hW8;have r8:=one_cell HR8.o;have f8:=aj HR8.o 0;have k8:=one_cell HK8.o;go_wp2_with fail;refine Qae (v:= .tuple #[.agg #[xL a2 (ls.length+1) c2],xI 0]) (by simp[results,results85,go_sem,r8]) rfl ⟨_,_,rfl,?_,?_⟩
  .have h3:=zL.o;exact((HA8.o.rC (p:=⟨[w,w],0,none⟩) (.inl (.inr ⟨by simp;omega,by simp⟩)) (by simp;omega) _).more (M':=M) (λi h=> .inl (.inl (.inl h)))).slice (λi hi=>by have:=lF.o i hi;omega)
  .have h3:=zL.o;exact(lE.o.1.trans (QE.o.mono (by omega))).setCell (by simp;omega) _
theorem cz.Ll {x:aW}{ls':List aQ}{V V':ax}(hb0:aC w0 W){mo mr:Nat}(hC:sW w0 B p b mo mr){v':aA}(hB:cz x (iC M B b mo mr) B p b mo mr sv W){p' b':Nat}(o1:ao (λi=>i=B) W V)(hp1:V<=p')(hq1:V<=b')(th:p'≠b')(A8:p'<V')(TR:b'<V')
 (hbk:∀N:aV,(∀i,N i->iC M B b mo mr i\/V.heap.size<=i)->jk ls' N p' b' v' V')(bE:aC V V')(o3:ao (λi=>i=B) V' W')(hc:W'.heap[B]? =some (EA v' p' mo mr x.next)):
 (∃p' b' sv',sW w0 B p' b' mo mr/\cz ⟨ls',x.aP,x.aF,x.next⟩ (iC M B b' mo mr) B p' b' mo mr sv' W'/\(b'=b\/W.heap.size<=b'))/\ao (Na B b mo mr) W W':=by
 have hs1:=o1.size;have hs2:=bE.size;have SZ:=(Qaa.1 hB.cell).1;have hol:=hB.aP.lt;have Bc:=hB.aF.lt;have hs0:=hb0.size;have c0:=hC.B0;have oa:ao (λi=>i=B) W W':=(o1.trans (ao.az bE)).trans o3;have hN:∀i,iC M B b' mo mr i->iC M B b mo mr i\/V.heap.size<=i:=λi hi=>by
  rcases hi with hi|hi|hi|hi|hi
  .exact .inl (.inl hi)
  .exact .inl (.inr (.inl hi))
  .exact .inr (by omega)
  .exact .inl (.inr (.inr (.inr (.inl hi))))
  .exact .inl (.inr (.inr (.inr (.inr hi))))
 have hE:Ev (iC M B b mo mr) W (iC M B b' mo mr) W':=⟨oa.mono λi hi=> .inr (.inl hi),λi hi=>(hN i hi).imp_right λh=>by omega⟩;have hk:∀i,i<W.heap.size->i≠B->W'.heap[i]? =W.heap[i]? :=λi hi hne=>oa.block i hi hne;refine⟨⟨p',b',v',⟨hC.B0,by omega,by omega,hC.o0,hC.r0,th,by omega,by omega,hC.Bo,hC.Br,by omega,by omega,hC.or,by omega,by omega⟩,⟨hc,?_,?_,?_⟩, .inr (by omega)⟩,oa.mono λi hi=> .inl hi⟩
 .exact(hbk (iC M B b' mo mr) hN).ev ⟨o3.mono λi hi=> .inr (.inl hi),λi hi=> .inl hi⟩ (o3.block p' A8 (by omega)) (o3.block b' TR (by omega))
 .exact hB.aP.ev hE (hk mo hol (λe=>hC.Bo e.symm))
 .exact hB.aF.ev (hk mr Bc (λe=>hC.Br e.symm))
def JX {mo mr:Nat}{s:aA}{nx:Int}(h:bW W B (EA s p mo mr nx)):(W.setCell (B,0) v).heap[B]? =some (EA v p mo mr nx):=by
 have:=Qca W B 0 _ _ v h;simpa [EA]using this
def Sl {p' mo mr:Nat}{s:aA}{nx:Int}(h:bW W B (EA s p mo mr nx)):(W.setCell (B,1) (xP p')).heap[B]? =some (EA s p' mo mr nx):=by
 have:=Qca W B 1 _ _ (xP p') h;simpa [EA]using this
def Mw(x:aW)(ls':List aQ)(M:Nat->Prop)(w0 W:World)(hM:Bd M w0)(hb0:aC w0 W)(B p b mo mr:Nat)(hC:sW w0 B p b mo mr)(sv v':Value)(hB:cz x (iC M B b mo mr) B p b mo mr sv W)(hv:ab (iC M B b mo mr) W v' ls'):
 xC 84 #[xP B, .agg #[v'],xI 0] W λe w'=>e=xR (xI 0)/\(∃p' b' sv',sW w0 B p' b' mo mr/\cz ⟨ls',x.aP,x.aF,x.next⟩ (iC M B b' mo mr) B p' b' mo mr sv' w'/\(b'=b\/W.heap.size<=b'))/\ao (Na B b mo mr) W w':=by
 have hBd:=hC.bd hB hb0 hM;have SZ:=(Qaa.1 hB.cell).1;have Kb:Hd (∀V s,ao (λi=>i=B) W V/\V.heap[B]? =some (EA s p mo mr x.next)->V.cell? (W,0)=some v'->W.heap.size<V->xC 55 #[.agg #[v']] V λe w'=>∃p' b',e=xR (xP p')/\w'.heap[B]? =some (EA s p mo mr x.next)/\w'.cell? (W,0)=some v'/\∀W',ao (λi=>i=B) w' W'->W'.heap[B]? =some (EA v' p' mo mr x.next)->(∃p' b' sv',sW w0 B p' b' mo mr/\cz ⟨ls',x.aP,x.aF,x.next⟩ (iC M B b' mo mr) B p' b' mo mr sv' W'/\(b'=b\/W.heap.size<=b'))/\ao (Na B b mo mr) W W'):=λV s h1 h2 h3=>by
  refine(BZ ls' (iC M B b mo mr) V (λi hi=>Qde (hBd i hi) h1.1.size) v' (hv.ev ⟨h1.1.mono λi hi=> .inr (.inl hi),λi hi=> .inl hi⟩)).mono ?_;rintro e w'⟨p',b',rfl,hp1,hq1,th,A8,TR,hbk,bE⟩;exact⟨p',b',rfl,(bE.block B (Qde SZ h1.1.size)).trans h1.2,(bE.cell (p:=⟨W,0,none⟩) h3).trans h2,λW' o3 hc=>cz.Ll hb0 hC hB h1.1 hp1 hq1 th A8 TR hbk bE o3 hc⟩
 have Q9:=ag hB.cell;obtain⟨la,lc,rfl,-⟩:=hv.aq;clear hB hC hb0 hM hBd hv;generalize ls'.length=n at*;generalize x.next=nx at*;have hne:¬W=B:=by omega
 have qbx:¬B=W:=by omega
 have HX:=ag (Bx.eI W (xK #[xL la n lc] 31));go_enter func84,ntmps84;go_upto_region 2 with fail;have⟨W1,hW1⟩:=bY (W.alloc (xK #[xL la n lc] 31));rw[<-hW1]at HX;rw[<-hW1];have hz1:W1.heap.size=[W]:=by rw[hW1];simp
 clear hW1;have hb1:W1.heap[B]? =some (EA sv p mo mr nx):=(HX.o.1.block B SZ).trans Q9.o;have c0:=one_cell (HX.o.bO rfl);obtain⟨b0,b1,-⟩:=dq hb1;have⟨f0,f1⟩:=mu hb1;have X7:Hd (ao (λi=>i=B) W W1.drew/\W1.drew.heap[B]? =some (EA sv p mo mr nx)):=⟨ao.az HX.o.1.drew,hb1⟩;have HV2:Hd (ao (λi=>i=B) W (W1.drew.setCell (B,0) (xL la n lc))/\(W1.drew.setCell (B,0) (xL la n lc)).heap[B]? =some (EA (xL la n lc) p mo mr nx)):=⟨X7.o.1.setCell (.inl rfl) _,JX X7.o.2⟩;have k2:(W1.drew.setCell (B,0) (xL la n lc)).cell? (W,0)=some (xL la n lc):=(World.cell?_setCell_other _ _ _ _ (by intro e;injection e with e1;exact qbx e1)).trans c0;have k2':(W1.setCell (B,0) (xL la n lc)).cell? (W,0)=some (xL la n lc):=(World.cell?_setCell_other _ _ _ _ (by intro e;injection e with e1;exact qbx e1)).trans c0;go_region_law(first
  |(go_simp;go_at_call 55;refine(Kb.o _ _ (by with_reducible first|exact X7.o|exact HV2.o) (by first|exact c0|exact k2) (by simp[hz1])).mono ?_;rintro e w3⟨p',b',rfl,h3,c3,hfn⟩;obtain⟨x0,x1,-⟩:=dq h3;have⟨y0,y1⟩:=mu h3;have H3:=ag h3;have A9:=ag hfn;clear h3 hfn)
  |fail);all_goals
  have HE:=ag (A9.o ((w3.setCell (B,0) (xL la n lc)).setCell (B,1) (xP p')) (((ao.refl (λi=>i=B) w3).setCell (.inl rfl) _).setCell (.inl rfl) _) (Sl (JX H3.o)));go_wp2;go_ret;exact⟨rfl,HE.o⟩
def PW(x:aW)(hx:dF x.aK)(r:ec)(hid:r.id=(x.aK.length:Int))(hok:E4 x.aK r.cL)(hcn:r.cL.ai.size<=maxLen)(M:aV)(w0 W:ax)(hM:Bd M w0)(hG:Gd w0)(hb0:aC w0 W)(B p b mo mr:Nat)(hC:sW w0 B p b mo mr)(sv vv fv:aA)(hB:cz x (iC M B b mo mr) B p b mo mr sv W)(hv1:∃fa fn fc,vv=xL fa fn fc)(hf:ab M w0 fv r.cL.ah):
 xC 35 #[xP B,yg r vv fv] W λe w'=>e=xR (xI 0)/\(∃p' b' sv',sW w0 B p' b' mo mr/\cz ⟨x.aK++[⟨r.cL,[]⟩],x.aP,x.aF,x.next⟩ (iC M B b' mo mr) B p' b' mo mr sv' w'/\(b'=b\/W.heap.size<=b'))/\ao (Na B b mo mr) W w':=by
 have hBd:=hC.bd hB hb0 hM;have XB:Hd (∀V,aC W V->xC 85 #[.agg #[sv], .agg #[r.cL.ai,fv]] V λe w'=>∃a c,e=xR (.tuple #[.agg #[xL a (x.aK.length+1) c],xI 0])/\ab (iC M B b mo mr) w' (xL a (x.aK.length+1) c) (x.aK++[⟨r.cL,[]⟩])/\aC V w'):=λV hb=>JW x.aK hx r.cL hok hcn (iC M B b mo mr) V (hBd.ae hb) (hG.tb.ae (hb0.trans (hb.mono hb0.size))) sv fv (hB.book.aK.ae hb) (hf.ev (hC.ev (hb0.trans (hb.mono hb0.size))));have Sx:Hd (∀V a c,aC W V->ab (iC M B b mo mr) V (xL a (x.aK.length+1) c) (x.aK++[⟨r.cL,[]⟩])->_):=λV a c hb hs=>Mw x _ M w0 V hM (hb0.trans (hb.mono hb0.size)) B p b mo mr hC sv _ (hB.ae hb) hs;have Q9:=ag hB.cell;obtain⟨va,vn,vc,rfl⟩:=hv1;obtain⟨fa,fc,rfl,-⟩:=hf.aq;obtain⟨la,lc,rfl,-⟩:=hB.book.aK.aq;clear hB hC hb0 hM hBd hf hG hok hx hcn;obtain⟨rk,ro,ri,rv,rn,⟨rcn,WL⟩,⟨rx0,rx1,rx2,rx3,⟨rx4,rx5⟩,rx6,rx7⟩⟩:=r;obtain⟨oi,oc,ov,os⟩:=ro;dsimp only at*;subst hid;have⟨rD,hrD⟩:=bY ((⟨rk,⟨oi,oc,ov,os⟩,(x.aK.length:Int),rv,rn,⟨rcn,WL⟩,⟨rx0,rx1,rx2,rx3,⟨rx4,rx5⟩,rx6,rx7⟩⟩:ec));go_enter func35,ntmps35;go_upto_region 1 with fail;have⟨W1,hW1⟩:=bY (W.alloc (lL rD (xL va vn vc) (xL fa WL.length fc)));have fp:=ag (show dk W1 W (lL rD (xL va vn vc) (xL fa WL.length fc))by rw[hW1];exact Qbh W _);have bz:=ag (show aC W W1 by rw[hW1];exact bU);rw[hrD]at fp hW1;unfold lL at hW1;dsimp only at hW1;rw[<-hW1];clear hW1 hrD;obtain⟨-,-,-,-,-,k5,-,-,k8,k9⟩:=fG fp.o;dsimp only at k5 k8 k9;obtain⟨b0,-⟩:=dq ((bz.o.block B (Qaa.1 Q9.o).1).trans Q9.o);go_quiet(fail);have⟨W2,hW2⟩:=bY (W1.drewN nq);have bg:=ag (show aC W W2 by rw[hW2];exact bz.o.trans ⟨rfl,rfl,rfl,bT,λ_ _=>rfl⟩);have eZ:=ag (show W2.heap[W.heap.size]? =W1.heap[W.heap.size]? by rw[hW2];rfl);rw[<-hW2];clear hW2 k5 k8 k9 b0;obtain⟨-,-,-,-,-,k5,-,-,k8,k9⟩:=fG (eZ.o.trans fp.o);dsimp only at k5 k8 k9;obtain⟨b0,-⟩:=dq ((bg.o.block B (Qaa.1 Q9.o).1).trans Q9.o);go_upto_region 3 with fail;go_region_law(first
  |(go_simp;go_at_call 85;refine(XB.o _ (by with_reducible first|exact bg.o|exact bg.o.drew)).mono ?_;rintro e w2⟨a2,c2,rfl,hs2,bE⟩;have bV:=ag (show aC W w2 by first|exact bg.o.drew.trans (bE.mono bg.o.drew.size)|exact bg.o.trans (bE.mono bg.o.size));have gn:=ag hs2;clear hs2 bE)
  |(go_simp;go_at_call 84;refine(Sx.o _ _ _ bV.o gn.o).mono ?_;rintro e w3⟨rfl,h3,o3⟩;have HE3:=ag (And.intro h3 o3);clear h3 o3)
  |fail);all_goals
  go_wp2;go_ret;have⟨p',b',sv',h1,h2,h3⟩:=HE3.o.1;exact⟨rfl,⟨p',b',sv',h1,h2,h3.imp_right (Qcg bV.o.size)⟩,(ao.az bV.o).cV HE3.o.2 λi hi _=>hi⟩
def IE {x:aW}(hx:dF x.aK){r:ec}(hk:r.an=3)(hid:r.id=(x.aK.length:Int))(hok:E4 x.aK r.cL)(hcn:r.cL.ai.size<=maxLen):EM x r ⟨x.aK++[⟨r.cL,[]⟩],x.aP,x.aF,x.next⟩:=
 ⟨_, .inr (.inr ⟨hk,rfl⟩),λM w0 W hM hG hb B p b mo mr hC sv vv fv hB hv hf=>PW x hx r hid hok hcn M w0 W hM hG hb B p b mo mr hC sv vv fv hB (by have⟨a,c,e,_⟩:=hv.aq;exact⟨_,_,_,e⟩) hf⟩
def PI(k:Int)(F:Nat):Prop:=(k=1/\F=65)\/(k=3/\F=67)\/(k=5/\F=69)\/(k=7/\F=71)\/(k=8/\F=72)
def allM(M:aV)(p:qH)(z:Nat):Nat->Prop:=λi=>M i\/yR p z i
def vg(t:oh)(o:pF)(J:oh->Prop):Prop:=∃F:Nat,PI o.an F/\∀(M:aV)(z:Nat)(p:qH)(W:ax)(vv df:aA),FE M z p->kT t M z p W->Gd W->ab (allM M p z) W vv o.aZ->ab (allM M p z) W df o.Cj.ah->AT o vv df->
 xC F #[xP p.T,yr o.an o.id o.cL o.ai vv o.Cj.ai df] W λe w'=>e=xR (.tuple #[])/\(∃t',J t'/\kT t' M z p w')/\ao (yR p z) W w'
def Iw(t:oh)(o:pF)(n:Int):Prop:=∃F:Nat,PI o.an F/\∀(M:aV)(z:Nat)(p:qH)(W:ax)(vv df:aA),FE M z p->kT t M z p W->Gd W->ab (allM M p z) W vv o.aZ->ab (allM M p z) W df o.Cj.ah->AT o vv df->
 xC F #[xP p.T,yr o.an o.id o.cL o.ai vv o.Cj.ai df] W λe w'=>e= .panicked (yt n)/\ao (yR p z) W w'
structure Cd(x:aW)(t:oh):Prop where
 recs:∃ds:List lA,t.defs=ds.map Subtype.val/\ds.length<=40/\(nM ds t.aP t.aF).Pairwise (λa b=>zu (tW a.1) (tW b.1)=true)/\∃y,gx y/\fW x ((nM ds t.aP t.aF).map Subtype.val) y
 nI:(cA t.aP).Pairwise (·< ·)
 x9:eN t.aF
 mL:∀r∈t.aF,r.ai.size<=maxLen
 olen:t.aP.length<=400
 rlen:t.aF.length<=400
def Sd {kv:aA}{n:Int}(h:Bx w [o0,ei 55 cv,ei 54 (),ei 3 (xI 0),ei 37 (xI 0)] W)
 (hW:W'=((((W.setCell ([w],0) cv).setCell ([w,w],0) kv).setCell ([w,w,w],0) n).setCell (w.heap.size+1+1+1+1,0) (xI 0)).drew):
 Bx w [o0,ei 55 cv,ei 54 kv,ei 3 n,ei 37 (xI 0)] W'/\ao (λk=>w<=k/\k<↑w+5) W W':=by
 have h1:=h.set 1 0 (v:=cv) rfl;have h2:=h1.set 2 0 (v:=kv) rfl;have h3:=h2.set 3 0 (v:=xI n) rfl;have h4:=(h3.set 4 0 (v:=xI 0) rfl).drew;refine⟨by rw[hW];simpa [ei]using h4,?_⟩;rw[hW];exact(((((ao.refl (λk=>w<=k/\k<↑w+5) W).setCell (p:=⟨[w],0,none⟩) (.inl ⟨by simp,by simp⟩) _).setCell (p:=⟨[w,w],0,none⟩) (.inl ⟨by simp;omega,by simp⟩) _).setCell (p:=⟨[w,w,w],0,none⟩) (.inl ⟨by simp;omega,by simp⟩) _).setCell (p:=⟨w.heap.size+1+1+1+1,0,none⟩) (.inl ⟨by simp;omega,by simp⟩) _).drew
def PJ(x:aW)(l:List pF)(M:aV)(J:Nat->oh->Prop)(u:aA)(w':ax):Prop:=∃(t:oh)(ds:List lA)(cv kv:aA),J l.length t/\t.defs=ds.map Subtype.val/\u= .tuple #[cv,kv,xI (x.next+madeOf l),xI 0]/\ab M w' cv ((nM ds t.aP t.aF).map Subtype.val)/\ab M w' kv t.reads
def Se {t:oh}{o:pF}{J:oh->Prop}{B:Int->Prop}(h:vg t o J\/∃n,B n/\Iw t o n):∃F:Nat,PI o.an F/\∀(M:aV)(z:Nat)(p:qH)(W:ax)(vv df:aA),FE M z p->kT t M z p W->Gd W->ab (allM M p z) W vv o.aZ->ab (allM M p z) W df o.Cj.ah->AT o vv df->
 xC F #[xP p.T,yr o.an o.id o.cL o.ai vv o.Cj.ai df] W λe w'=>((e=xR (.tuple #[])/\∃t',J t'/\kT t' M z p w')\/∃n,B n/\e= .panicked (yt n))/\ao (yR p z) W w':=by
 rcases h with⟨F,hF,h⟩|⟨n,hB,F,hF,h⟩
 .exact⟨F,hF,λM z p W vv df h1 h2 h3 h4 h5 h6=>(h M z p W vv df h1 h2 h3 h4 h5 h6).mono λ_ _ k=>⟨.inl ⟨k.1,k.2.1⟩,k.2.2⟩⟩
 .exact⟨F,hF,λM z p W vv df h1 h2 h3 h4 h5 h6=>(h M z p W vv df h1 h2 h3 h4 h5 h6).mono λ_ _ k=>⟨.inr ⟨n,hB,k.1⟩,k.2⟩⟩
def Ce(x:aW)(hx:gx x)(l:List pF)(hl:l.length<=20)(M:aV)(w:ax)(hM:Bd M w)(hG:Gd w)(lv ov rv qv:aA)(js:ab M w lv x.aK)(kM:ab M w ov x.aP)(iM:ab M w rv x.aF)(hq:ab M w qv l)
 (hR:∀o∈l,tY M w o)(yX:madeOf l=0\/x.next+madeOf l-1<=100000)(B:Int->Prop)
 (J:Nat->oh->Prop)(h0:(yu l/\∀L:List Int,(∀n,n∈L↔Mk.D9 (cE x) (de x) n)->L.length<=500->J 0 ⟨x.aK,x.next,L,madeOf l,0,[],[],[],[]⟩)\/(EU l/\B 170))(vw:∀i o t,l[i]? =some o->J i t->vg t o (J (i+1))\/∃n,B n/\Iw t o n)(I0:∀t,J l.length t->Cd x t):
 xG 9 #[.agg #[lv,ov,rv,x.next],qv] w λu w'=>(∃n,B n/\u= .tuple #[(),(),xI 0,xI n])\/PJ x l M J u w':=by
 have Cs:∀(fn:Fn)(au cap:Array aA)(w:ax),(Instr.makeFunc fn au cap).run prog w= .ok (.func fn au cap) w:=λ_ _ _ _=>rfl;have Xc:=gQ (w:=w) (λW hb=>AW x W lv ov rv hx (hG.ae hb) ((js.ae hb).ev (Ev.dL W λi hi=>hi.elim)) ((kM.ae hb).ev (Ev.dL W λi hi=>hi.elim)) ((iM.ae hb).ev (Ev.dL W λi hi=>hi.elim)));have Fo:=gQ (w:=w) (λW hb=>PE x.next ⟨by have:=hx.next;omega,by have:=hx.next;omega⟩ l hl M W lv ov rv qv (by have⟨a,c,e,_⟩:=js.aq;exact⟨_,_,_,e⟩) (by have⟨a,c,e,_⟩:=kM.aq;exact⟨_,_,_,e⟩) (by have⟨a,c,e,_⟩:=iM.aq;exact⟨_,_,_,e⟩) (hq.ae hb) (λo ho W' vv df hb' h1 h2 h3=>hR o ho W' vv df (hb.trans (hb'.mono hb.size)) h1 h2 h3) yX (h0.imp And.left And.left));obtain⟨M1,Te⟩:∃M1:aV,M1=(λi=>M i\/(w<=i/\i<↑w+5)):=⟨_,rfl⟩;have hMM:∀i,M1 i->M i\/w.heap.size<=i:=λi hi=>by
  rw[Te]at hi;exact hi.imp_right λe=>e.1
 have hE:∀W,aC w W->Ev M w M1 W:=λW hb=>⟨ao.az hb,hMM⟩;have I1:Hd (∀W,w.heap.size+5<=W.heap.size->Bd M1 W):=λW hz i hi=>by
  rw[Te]at hi;rcases hi with hi|hi
  .have:=hM i hi;omega
  .omega
 have HBG:Hd (∀(W:ax)(L:List Int)(wv:aA)(n:Int),aC w W->w.heap.size+5<=W->ab xF W wv L->L.length<=1000->_):=λW L wv n hb hz hL X5=>Mc x M1 W (I1.o W hz) lv ov rv wv (js.ev (hE W hb)) (kM.ev (hE W hb)) (iM.ev (hE W hb)) L hL (by have:=hx.len;omega) X5 n;have Cr:Hd (∀W,aC w W->∀i o,l[i]? =some o->_):=λW hb i o ho=>PB (hq.ev (M':=λi=>M i\/w.heap.size<=i) ⟨ao.az hb,λi hi=>hi⟩) ho;have pL:Hd (∀(y:aW)(recs:List ec)(W:ax)(cv:aA),gx y->fW x recs y->recs.length<=1000->aC w W->w.heap.size+5<=W->ab M1 W cv recs->_):=λy recs W cv hy hd hn hb hz hc=>AP x y hx hy recs hd hn M1 W (I1.o W hz) (hG.ae hb) lv ov rv cv (js.ev (hE W hb)) (kM.ev (hE W hb)) (iM.ev (hE W hb)) hc;have Ka:Hd (∀L:List Int,Mk.LB L->(∀n,n∈L↔Mk.D9 (cE x) (de x) n)->L.length<=500):=λL hr hL=>by
  have h1:=im (cA x.aP) L (hr.imp (λ{a b}h e=>by omega)) (λn hn=>hx.closed.RW ((hL n).1 hn));have h2:=hx.len;unfold cA at h1;rw[Qdc]at h1;omega
 have zz:=ag Te;have HJ0:=ag h0;have HJS:=ag vw;have HJE:=ag I0;have HGD:=ag hG;have HMD:=ag yX;have HXN:=ag hx.next;have Xw:=ag hx.len;obtain⟨la,lc,rfl,-⟩:=js.aq;obtain⟨oa,oc,rfl,-⟩:=kM.aq;obtain⟨ra,rc,rfl,-⟩:=iM.aq;obtain⟨qa,qc,rfl,hqc,hqm,-⟩:=hq.aq;clear hx js kM iM hq hM hG hR yX h0 vw I0 Te hMM hE;generalize re:x.next=nx at*;generalize oF:x.aK.length=m1 at*;generalize hm2:x.aP.length=m2 at*;generalize MU:x.aF.length=m3 at*;generalize hnn:l.length=n at*;have tj:=ag re;clear re;have Cn:=ag oF;clear oF;have mz:=ag hm2;clear hm2;have HA3:=ag MU;clear MU;have v8:=ag hnn;clear hnn;have cI:=ag (Bx.NQ w (cT (xL la m1 lc) (xL oa m2 oc) (xL ra m3 rc) nx) (ei 55 ()) (ei 54 ()) (ei 3 (xI 0)) (ei 37 (xI 0)));go_enter_defers func9,ntmps9;go_upto_region 2 with fail;have⟨W1,hW1⟩:=bY (((((w.alloc (cT (xL la m1 lc) (xL oa m2 oc) (xL ra m3 rc) nx)).alloc (ei 55 ())).alloc (ei 54 ())).alloc (ei 3 (xI 0))).alloc (ei 37 (xI 0)));rw[<-hW1]at cI;unfold cT ei at hW1;rw[<-hW1];clear hW1;have fp:=ag cI.o.1;have⟨a0,a1,a2,a3⟩:=af (cI.o.bO rfl);go_wp2_with fail;refine(Xc.o _ cI.o.1).mono ?_;rintro e w2⟨_,rfl,⟨L,wv,rfl,hL,Q5,hLi⟩,bE⟩;have X5:=Ka.o L Q5 hLi;have HLI:=ag hLi;have qY:=ag hL;have bg:=ag (cI.o.ae bE);obtain⟨wa,wc,rfl,-⟩:=hL.aq;have MK:Hd (L.length<=500):=X5;clear hL Q5 hLi bE a0 a1 a2 a3 X5;have⟨a0,a1,a2,a3⟩:=af (bg.o.bO rfl);have Kh:=ag tU;go_wp2_with fail;refine(Kh.o _).mono ?_;rintro e w3⟨rfl,rfl⟩;go_wp2_with fail;refine(Fo.o _ bg.o.1).mono ?_;rintro e w4⟨Ym,eA⟩;have ek:=ag (bg.o.ae eA);rcases Ym with⟨hng,rfl⟩|⟨MI,rfl⟩;rotate_left
 .exact yx ek.o (by simp[go_sem]) (λW' z1 z2 z3 z4=>by simp[results,results9,go_sem,z1,z2,z3,z4]) λW' hb=>⟨_,rfl, .inl ⟨170,HJ0.o.elim (λh=>(PD h.1 MI).elim) And.right,rfl⟩,hb⟩
 have HJG:Hd (∀L:List Int,_):=HJ0.o.elim And.right λh=>(PD hng h.1).elim;clear hng HJ0;have ni:=ag (HBG.o w4 L _ (madeOf l) ek.o.1 ek.o.bQ (qY.o.ae eA) (by have:=MK.o;omega));clear eA a0 a1 a2 a3;have⟨a0,a1,a2,a3⟩:=af (ek.o.bO rfl);generalize yX:(madeOf l:Int)=md at*;have yU:=ag yX;clear yX;go_wp2_with fail;refine(ni.o).mono ?_;rintro e w5⟨p,rfl,kM,iM,hA,hS,hT,iL⟩;have HTA:=ag hA;have zG:=ag hS;have HTT:=ag hT;have iU:=ag (ek.o.ae iL);clear kM iM hA hS hT iL a0 a1 a2 a3;have HDO:=ag Px;go_wp2_with fail;refine(HDO.o _).mono ?_;rintro e w6⟨db,rfl,hda,IM,jn⟩;have kE:=ag (iU.o.ae jn);have MR:=ag (HTT.o w6 jn);have Xd:=ag (HTA.o _ jn.size);have HDA:=ag hda;have HDB:Hd (w5<=db/\db<w6/\w.heap.size+5<=w5):=⟨IM,hda.lt,iU.o.bQ⟩;have sZ:Hd (∀i,kS p i->w4.heap.size<=i/\i<w5.heap.size):=λi hi=>⟨zG.o i hi,(HTA.o _ bT).lt i hi⟩;clear hda IM jn HTT HTA zG;have I4:Hd (∀i,allM M1 p w6 i->M i\/w.heap.size<=i):=λi hi=>by
  have h4:=ek.o.1.size;have h6:=kE.o.1.size;rcases hi with hi|hi|hi
  .rw[zz.o]at hi;exact hi.imp_right λe=>e.1
  .have:=sZ.o i hi;omega
  .omega
 generalize hz:w6.heap.size=z at*;have HZ:=ag hz;clear hz;have ia:Hd ((∃t,J 0 t/\kT t M1 z p w6)/\ao (yR p z) w6 w6):=⟨⟨_,HJG.o L HLI.o MK.o,MR.o⟩,ao.refl _ _⟩;have HFZ:Hd (∀i,i<w5.heap.size->¬kS p i->¬yR p z i):=λi hi hn hf=>by
  rcases hf with hf|hf
  .exact hn hf
  .have:=HDB.o;omega
 have HBO:Hd (∀j,yR p z j->w.heap.size+5<=j):=λj hj=>by
  have h1:=HDB.o;have h4:=ek.o.bQ;simp at h4;rcases hj with hj|hj
  .have:=sZ.o j hj;omega
  .omega
 go_wp2;go_loopg [14,33]n(λgg _ iv wr=>∃i:Nat,gg=n-i/\i<=n/\iv=xI i/\Hd ((∃t,J i t/\kT t M1 z p wr)/\ao (yR p z) w6 wr));case atStart=>exact⟨0,rfl,Qbf _,rfl,ia⟩
 case round=>
  obtain⟨i,rfl,hi,rfl,HS⟩:=hrel;rename World=>wr;have Fw:Hd (Bx w [cT (xL la m1 lc) (xL oa m2 oc) (xL ra m3 rc) nx,ei 55 (),ei 54 (),ei 3 (xI 0),ei 37 (xI 0)] wr):=kE.o.only HS.o.2 HBO.o;have Nd:Hd (jW wr db):=HDA.o.same (HS.o.2.block db HDA.o.lt (λhf=>by
   have h1:=HDB.o;rcases hf with hf|hf
   .have:=sZ.o db hf;omega
   .omega));by_cases bH:i<n
  .have⟨o,ho⟩:=eG l i (by have:=v8.o;omega);have⟨b,off,cap,vv,df,hv1,hvv,hdf,hzv,hrg⟩:=Cr.o wr Fw.o.1 i o ho;obtain⟨rfl,rfl⟩:=iY hv1;have uu:=ag (hrg wr dS);have⟨t,hJ,hTx⟩:=HS.o.1;have⟨F,hF,hdo⟩:=Se (HJS.o i o t ho hJ);have qbo:=gQ (w:=wr) (λW hb=>hdo M1 z p W vv df Xd.o (hTx.ae hb) (HGD.o.ae (Fw.o.1.trans (hb.mono Fw.o.1.size))) ((hvv.ev (Ev.dL wr I4.o)).ae hb) ((hdf.ev (Ev.dL wr I4.o)).ae hb) hzv);have CJ:=gQ (w:=wr) (λW hb=>(Nd.o.same (hb.block _ Nd.o.lt)).look hF);obtain⟨va,vc,rfl,-⟩:=hvv.aq;obtain⟨da,dc,rfl,-⟩:=hdf.aq;clear hv1 hvv hdf hzv hrg ho hdo hJ hTx;generalize o.aZ.length=vn at*;generalize o.Cj.ah.length=dn at*;have HFF:=ag hF;clear hF;go_upto_region 9 with fail;iterate 4 go_step
   refine kp rfl (.tmp 35) rfl b (off+i*19) rfl uu.o ?_;iterate 3 go_step
   refine lC rfl (.tmp 14) (.tmp 36) rfl rfl rfl rfl rfl λW3 ky bV=> ?_;have k0:=(bM ky.o).c0;have pM:=CJ.o _ bV.o;have HD3:=ag (qbo.o _ bV.o);clear qbo CJ uu;dsimp only[CB]at pM;have hfd:∀(f:Nat)(W:ax),(Instr.field 109 (.agg #[.func (.func f) #[] #[]]) 0).run prog W= .ok (.func (.func f) #[] #[]) W:=λ_ _=>by kernel_rfl
   have hF:=HFF.o;clear HFF;go_upto_region 10 with fail;rcases hF with⟨-,rfl⟩|⟨-,rfl⟩|⟨-,rfl⟩|⟨-,rfl⟩|⟨-,rfl⟩;all_goals
    go_wp2_with(refine dC rfl (.tmp 14) rfl wr rfl ky.o ?_);refine(HD3.o).mono ?_;rintro e w9⟨QV,ho'⟩;rcases QV with⟨rfl,CF⟩|⟨en,hen,rfl⟩;rotate_left
    .exact yx ((Fw.o.ae bV.o).only ho' HBO.o) (by simp[go_sem]) (λW' z1 z2 z3 z4=>by simp[results,results9,go_sem,z1,z2,z3,z4]) λW' hb=>⟨_,rfl, .inl ⟨en,hen,rfl⟩,hb⟩
    have HN:Hd ((∃t,J (i+1) t/\kT t M1 z p w9)/\ao (yR p z) w6 w9):=⟨CF,(HS.o.2.trans (ao.az bV.o)).trans ho'⟩;clear CF ho' pM k0;go_wp2;go_roundg(n-(i+1));case measure=>omega
    case rel=>exact⟨i+1,rfl,by omega,by go_num,HN⟩
  .obtain rfl:i=n:=by omega
   have⟨t,hJ,hTx⟩:=HS.o.1;have hE:=HJE.o t hJ;have⟨ds,hds,hdl,hst,y,hy,hdo⟩:=hE.recs;have HRK:=ag (Is t M1 z p Xd.o wr hTx ds hds hdl hE.mL hE.nI hE.x9 (by have:=hE.olen;omega) (by have:=hE.rlen;omega) hst);obtain⟨sv,dv,kv,h1,-,-,h4,-⟩:=hTx.st;have HKV:Hd (ab M1 wr kv t.reads):=(h4.more λk hk=> .inl (.inl hk)).slice (λk hk=>Xd.o.far k hk);have CL:=ag h1;have QQ:Hd (p.T<w5/\w4<=p.T):=⟨(sZ.o p.T (.inl rfl)).2,(sZ.o p.T (.inl rfl)).1⟩;have HJT:=ag (And.intro hJ (And.intro hds (And.intro hy hdo)));have Ue:=ag (show((nM ds t.aP t.aF).map Subtype.val).length<=1000 by
    have h2:=hE.olen;have h3:=hE.rlen;unfold nM;simp;omega);obtain⟨ka,kn,kc,rfl⟩:∃a n c,kv=xL a n c:=by have⟨a,c,e,_⟩:=h4.aq;exact⟨_,_,_,e⟩
   clear hJ hTx hE hds hdl hst hy hdo h1 h4;go_wp2_with fail;refine(HRK.o).mono ?_;rintro e w8⟨_,rfl,hsl,Be⟩;obtain⟨ca,cc,rfl,-⟩:=hsl.aq;generalize Bc:((nM ds t.aP t.aF).map Subtype.val).length=rl at*;have Xe:=ag (Fw.o.ae Be);have qet:=ag hsl;have qeu:=ag (HKV.o.ae Be);have qbp:Hd (bW w8 p.T (qhe p sv t.next t.news t.made dv (xL ka kn kc))):=(Be.block _ (Qaa.1 CL.o).1).trans CL.o;have x1:=one_cell (Xe.o.cg rfl);have y1:=aj (Xe.o.cg rfl) 0;have qev:=ag Bc;clear hsl Be Bc;go_upto_region 13 with fail;clear x1 y1;have⟨W9,hW9⟩:=bY (w8.setCell ([w],0) (xL ca rl cc));have HO9:=ag (show ao (λk=>k=[w]) w8 W9 by rw[hW9];exact(ao.refl (λk=>k=[w]) w8).setCell (p:=⟨[w],0,none⟩) (.inl rfl) _);have QR:=ag (show Bx w [cT (xL la m1 lc) (xL oa m2 oc) (xL ra m3 rc) nx,ei 55 (xL ca rl cc),ei 54 (),ei 3 (xI 0),ei 37 (xI 0)] W9 by
    rw[hW9];have h:=Xe.o.set 1 0 (v:=xL ca rl cc) rfl;simpa [ei]using h);rw[<-hW9];clear hW9;have hE9:Ev M1 w8 M1 W9:=⟨HO9.o.mono λk hk=>by rw[zz.o];right;have hk:k=[w]:=hk;omega,λk hk=> .inl hk⟩;have qbq:=ag (qet.o.ev hE9);have qew:=ag (qeu.o.ev hE9);have qbr:Hd (bW W9 p.T (qhe p sv t.next t.news t.made dv (xL ka kn kc))):=(HO9.o.block _ (Qaa.1 qbp.o).1 (by have:=QQ.o;have:=ek.o.bQ;simp at this;omega)).trans qbp.o;clear hE9;have I4:=ag (pL.o y _ W9 _ HJT.o.2.2.1 HJT.o.2.2.2 (by rw[qev.o];exact Ue.o) QR.o.1 QR.o.bQ qbq.o);have⟨a0,a1,a2,a3⟩:=af (QR.o.bO rfl);have x1:=one_cell (QR.o.cg rfl);go_wp2_with fail;refine(I4.o).mono ?_;rintro e w10⟨_,rfl,⟨l2,o2,r2,rfl,hl2,ho2,hr2⟩,ng⟩;obtain⟨l2a,l2c,rfl,-⟩:=hl2.aq;obtain⟨o2a,o2c,rfl,-⟩:=ho2.aq;obtain⟨r2a,r2c,rfl,-⟩:=hr2.aq;have zO:=ag (QR.o.ae ng);have qex:=ag (qbq.o.ae ng);have qey:=ag (qew.o.ae ng);have qez:Hd (bW w10 p.T (qhe p sv t.next t.news t.made dv (xL ka kn kc))):=(ng.block _ (Qaa.1 qbr.o).1).trans qbr.o;clear hl2 ho2 hr2 ng a0 a1 a2 a3 x1;go_wp2_with fail;refine(Kh.o _).mono ?_;rintro e w11⟨rfl,rfl⟩;have⟨a0,a1,a2,a3⟩:=af (zO.o.bO rfl);have x1:=one_cell (zO.o.cg rfl);have x2:=one_cell (zO.o.fB rfl);have x3:=one_cell (zO.o.Bv rfl);have x4:=one_cell (zO.o.Xn rfl);have y1:=aj (zO.o.cg rfl) 0;have y2:=aj (zO.o.fB rfl) 0;have y3:=aj (zO.o.Bv rfl) 0;have y4:=aj (zO.o.Xn rfl) 0;obtain⟨-,-,-,-,-,-,-,-,-,t12,-⟩:=dJ qez.o;have hT1:p.T≠[w]:=by have:=QQ.o;have:=ek.o.bQ;simp at this;omega
   have hT2:p.T≠[w,w]:=by have:=QQ.o;have:=ek.o.bQ;simp at this;omega
   have hT3:p.T≠[w,w,w]:=by have:=QQ.o;have:=ek.o.bQ;simp at this;omega
   have hT4:p.T≠w.heap.size+1+1+1+1:=by have:=QQ.o;have:=ek.o.bQ;simp at this;omega
   have hn1:(1:Int)<=nx:=HXN.o.1;have hn2:nx<=100001:=HXN.o.2;have V3:(0:Int)<=md:=by rw[<-yU.o];omega
   have hm9:md<=100:=by have h:=JS l;have h2:=v8.o;rw[<-yU.o];omega
   go_upto_region 15 with fail;go_region_held3(λV=>yY V w 0 (xL ca rl cc)/\ou V w 3 nx/\bJ V p.T 12 (xL ka kn kc))
    (first|(refine⟨?_,?_,?_⟩<;>simp_all[go_sem])|fail)
    (first|fail);rw[show IntKind.i64.wrap (nx+md)=nx+md from Qbe _ (by omega)];have⟨W',hW'⟩:=bY (((((w11.setCell ([w],0) (xL ca rl cc)).setCell ([w,w],0) (xL ka kn kc)).setCell ([w,w,w],0) (xI (nx+md))).setCell (w.heap.size+1+1+1+1,0) (xI 0)).drew);have A9:=ag (Sd zO.o hW');rw[<-hW'];clear hW' a0 a1 a2 a3 x1 x2 x3 x4 y1 y2 y3 y4 t12 hT1 hT2 hT3 hT4;have z1:=one_cell (A9.o.1.cg rfl);have z2:=one_cell (A9.o.1.fB rfl);have z3:=one_cell (A9.o.1.Bv rfl);have z4:=one_cell (A9.o.1.Xn rfl);go_wp2_with fail;refine leaves_cons (f:=25) (args:= #[xP [w],xP [w,w],xP [w,w,w],xP (w.heap.size+1+1+1+1)]) (by simp) (by simp[go_sem]) ?_;refine(PF ⟨[w],0,none⟩ ⟨[w,w],0,none⟩ ⟨[w,w,w],0,none⟩ ⟨w.heap.size+1+1+1+1,0,none⟩ _).mono ?_;rintro e u' w''⟨rfl,rfl,rfl⟩;have hE:Ev M1 w11 M w'':=⟨A9.o.2.mono λk hk=>by rw[zz.o];exact .inr hk,λk hk=> .inl (by rw[zz.o];exact .inl hk)⟩;refine⟨.tuple #[xL ca rl cc,xL ka kn kc,xI (nx+md),xI 0],by simp[results,results9,go_sem,z1,z2,z3,z4],⟨_,rfl, .inr ⟨t,ds,_,_,by rw[v8.o];exact HJT.o.1,HJT.o.2.1,by rw[tj.o,yU.o],qex.o.ev hE,qey.o.ev hE⟩,A9.o.1.1⟩⟩
def PK(x:aW)(hx:gx x)(l:List pF)(hl:l.length<=20)(M:aV)(w:ax)(hM:Bd M w)(hG:Gd w)(lv ov rv qv:aA)(js:ab M w lv x.aK)(kM:ab M w ov x.aP)(iM:ab M w rv x.aF)(hq:ab M w qv l)
 (hR:∀o∈l,tY M w o)(yX:madeOf l=0\/x.next+madeOf l-1<=100000)(hN:yu l)
 (J:Nat->oh->Prop)(h0:∀L:List Int,(∀n,n∈L↔Mk.D9 (cE x) (de x) n)->L.length<=500->J 0 ⟨x.aK,x.next,L,madeOf l,0,[],[],[],[]⟩)(vw:∀i o t,l[i]? =some o->J i t->vg t o (J (i+1)))(I0:∀t,J l.length t->Cd x t):
 xC 9 #[.agg #[lv,ov,rv,x.next],qv] w (cm w (PJ x l M J)):=
 (Ce x hx l hl M w hM hG lv ov rv qv js kM iM hq hR yX (λ_:Int=>False) J (.inl ⟨hN,h0⟩) (λi o t h1 h2=> .inl (vw i o t h1 h2)) I0).mono λ_ _⟨u,h1,h2,h3⟩=>⟨u,h1,h2.resolve_left λ⟨_,h,_⟩=>h,h3⟩
def AX(id:Int):pF:=⟨7,id,(),(),[],⟨⟨#[]⟩,[]⟩⟩
def Iy {t:oh}(hr:id∉t.reach):Iw t (AX id) 101:=
 ⟨_, .inr (.inr (.inr (.inl ⟨rfl,rfl⟩))),λM z p W vv df hA hT hG hv hd hz=>by
   obtain rfl:=hz.1 rfl;obtain rfl:=hz.2 rfl;refine cC (L9 t M z p W hT id hr) λw' h3=> ?_;exact⟨rfl,ao.az h3⟩⟩
structure RdJ(x:aW)(i:Nat)(t:oh):Prop where
 reach:∀n,n∈t.reach↔Mk.D9 (cE x) (de x) n
 aP:t.aP=[]
 aF:t.aF=[]
 defs:t.defs=[]
 len:t.reads.length<=i
 some_:0<i->t.reads≠[]
theorem RdJ.step {x:aW}{t t':oh}{k:aY}(h:RdJ x i t)(hr:t.tV k t'):RdJ x (i+1) t':=by
 rcases hr with⟨hk,rfl⟩|⟨hk,rfl⟩
 .exact⟨h.reach,h.aP,h.aF,h.defs,by have:=h.len;omega,λ_ e=>by rw[e]at hk;cases hk⟩
 .exact⟨h.reach,h.aP,h.aF,h.defs,by have:=h.len;simp;omega,λ_ e=>by simp at e⟩
theorem RdJ.end_ {x:aW}(hx:gx x){t:oh}(h:RdJ x i t):Cd x t where
 recs:=⟨[],by rw[h.defs];rfl,by simp,by rw[h.aP,h.aF];simp[nM],x,hx,by rw[h.aP,h.aF];exact fW.nil x⟩
 nI:=by rw[h.aP];simp[cA]
 x9:=by rw[h.aF];simp[eN]
 mL:=by rw[h.aF];simp
 olen:=by rw[h.aP];simp
 rlen:=by rw[h.aF];simp
def Iz(h:1<=id/\id<=100000):tY M w (AX id):=λW vv df _ _ _ hz=>by
 obtain rfl:=hz.1 rfl;obtain rfl:=hz.2 rfl;exact sM id h W
def AY {x:aW}(hx:gx x)(h:Mk.D9 (cE x) (de x) id):1<=id/\id<=100000:=by
 obtain⟨o,ho,rfl⟩:=Qdh.1 (hx.closed.RW h);have⟨i,hi⟩:=Qdg ho;have⟨h1,h2,_⟩:=hx.aP i o hi;have:=hx.next;omega
abbrev JU:aA:= .agg #[(),(),(),xI 0]
def Cf(w:ax):xC 54 #[JU] w (cu false w):=by
 have HX:=ag (Bx.eI w (cT () () () 0));go_enter func54,ntmps54;go_upto_region 1 with fail;have⟨W1,hW1⟩:=bY (w.alloc (cT () () () 0));rw[<-hW1]at HX;unfold cT at hW1;rw[<-hW1];clear hW1;have⟨a0,a1,a2,a3⟩:=af (HX.o.bO rfl);go_wp2;go_ret;exact⟨rfl,HX.o.1⟩
def EW(w:ax)(hT:Tb w):xC 21 #[JU] w λe w'=>(∃mb,e=xR (.tuple #[.agg #[(), .map mb],xI 100]))/\aC w w':=by
 have CC:=gQ (w:=w) (λW hb=>mW [] ⟨by simp,by simp,by simp⟩ xF W (λi h=>h.elim) (hT.ae hb) () (ab.nil _ _));have HOR:=ag Cf;have HX:=ag (Bx.du w (cT () () () 0) (xK #[(), .map none] 89));clear hT;go_enter func21,ntmps21;go_upto_region 1 with fail;have⟨W1,hW1⟩:=bY ((w.alloc (cT () () () 0)).alloc (xK #[(), .map none] 89));rw[<-hW1]at HX;unfold cT at hW1;rw[<-hW1];clear hW1;have⟨a0,a1,a2,a3⟩:=af (HX.o.bO rfl);go_wp2_with fail;refine cC (CC.o _ HX.o.1) λw2 hb=> ?_;have eZ:=ag (HX.o.ae hb);clear hb a0 a1 a2 a3;have⟨a0,a1,a2,a3⟩:=af (eZ.o.bO rfl);go_wp2_with fail;refine cC (HOR.o _) λw3 hb=> ?_;have ky:=ag (eZ.o.ae hb);clear hb a0 a1 a2 a3;have⟨b0,b1⟩:=ak (ky.o.cg rfl);have⟨f0,f1⟩:=mu (ky.o.cg rfl);go_wp2_with fail;refine Qae (v:= .tuple #[.agg #[(), .map none],xI 100]) (by simp[results,results21,go_sem,b0,b1,f0,f1]) rfl ⟨⟨none,rfl⟩,?_⟩;exact(ky.o.1.setCell (p:=⟨[w],0,none⟩) (by simp) _).setCell (p:=⟨[w],1,none⟩) (by simp) _
def IA(w:ax)(hT:Tb w):xC 7 #[JU] w (cu (.tuple #[(),xI 100]) w):=by
 have HX:=ag (Bx.eI w (cT () () () 0));have Yl:=ag (EW _ (hT.ae HX.o.1));clear hT;go_enter func7,ntmps7;go_upto_region 1 with fail;have⟨W1,hW1⟩:=bY (w.alloc (cT () () () 0));rw[<-hW1]at HX Yl;unfold cT at hW1;rw[<-hW1];clear hW1;have⟨a0,a1,a2,a3⟩:=af (HX.o.bO rfl);go_wp2_with fail;refine(Yl.o).mono ?_;rintro e w2⟨⟨mb,rfl⟩,hb⟩;have eZ:=ag (HX.o.ae hb);clear hb a0 a1 a2 a3;go_wp2_with fail;exact Qae (results_tmp2 rfl _ _ _) rfl ⟨rfl,eZ.o.1.alloc eZ.o.1.size _⟩
def PL(w:ax)(hT:Tb w)(qa:fx)(qn qc:Nat):xG 9 #[JU,xL qa qn qc] w λu w'=>u= .tuple #[(),(),xI 0,xI 100]:=by
 have Cs:∀(fn:Fn)(au cap:Array aA)(w:ax),(Instr.makeFunc fn au cap).run prog w= .ok (.func fn au cap) w:=λ_ _ _ _=>rfl;have cI:=ag (Bx.NQ w (cT () () () 0) (ei 55 ()) (ei 54 ()) (ei 3 (xI 0)) (ei 37 (xI 0)));have Xc:=ag (IA _ (hT.ae cI.o.1));have Kh:=ag (L5 100 (by decide));clear hT;go_enter_defers func9,ntmps9;go_upto_region 2 with fail;have⟨W1,hW1⟩:=bY (((((w.alloc (cT () () () 0)).alloc (ei 55 ())).alloc (ei 54 ())).alloc (ei 3 (xI 0))).alloc (ei 37 (xI 0)));rw[<-hW1]at cI Xc;unfold cT ei at hW1;rw[<-hW1];clear hW1;have⟨a0,a1,a2,a3⟩:=af (cI.o.bO rfl);go_wp2_with fail;refine(Xc.o).mono ?_;rintro e w2⟨rfl,bE⟩;have ek:=ag (cI.o.ae bE);clear bE a0 a1 a2 a3;go_wp2_with fail;refine(Kh.o _).mono ?_;rintro e w4⟨rfl,rfl⟩;exact yx ek.o (by simp[go_sem]) (λW' z1 z2 z3 z4=>by simp[results,results9,go_sem,z1,z2,z3,z4]) λW' hb=>⟨_,rfl,rfl,hb⟩
def Mj(t:oh)(M:aV)(z:Nat)(p:qH)(W:ax)(h:kT t M z p W)(h8:t.jR.length<=8)(ai:aY)(n:Nat)(hn:dx t.jR ai=n):xC 136 #[xP p.T,ai] W (cu n W):=by
 obtain⟨sv,dv,kv,h1,h2,-⟩:=h.st;obtain⟨c0,-⟩:=dJ h1;have HF:=ag (Ep _ sv W t.jR ai h2 h8 n hn);have HU:=ag (qg 170);obtain⟨sa,sc,rfl,-⟩:=h2.aq;generalize t.jR.length=sn at*;go_enter func136,ntmps136;go_wp2_with fail;refine(HF.o).mono ?_;rintro e w2⟨rfl,hb⟩;have HB:=ag hb;go_wp2_with fail;refine(HU.o _).mono ?_;rintro e w3⟨rfl,rfl⟩;go_wp2;go_ret;exact⟨rfl,HB.o⟩
def EX(T:aA)(k n n':Int)(s:aY)(a:fx)(c:Nat)(w:ax)(hn:(k=3\/k=4)->∀V,aC w V->xC 142 #[T,n] V λe w'=>e=xR n'/\w'=V)(he:¬(k=3\/k=4)->n'=n):
 xC 140 #[T, .agg #[k,n,s,xL a 0 c]] w (cu (.agg #[k,n',s,()]) w):=by
 have hk:k=3\/k=4\/((k==3)=false/\(k==4)=false/\n=n'):=by
  by_cases h3:k=3
  .exact .inl h3
  .by_cases h4:k=4
   .exact .inr (.inl h4)
   .exact .inr (.inr ⟨by simpa using h3,by simpa using h4,(he (by omega)).symm⟩)
 have HN:=ag hn;have HX:=ag (Bx.du w (ej k n s (xL a 0 c)) (ej 0 0 () ()));clear hn he;go_enter func140,ntmps140;go_upto_region 1 with fail;have⟨W1,hW1⟩:=bY ((w.alloc (ej k n s (xL a 0 c))).alloc (ej 0 0 () ()));rw[<-hW1]at HX;unfold ej at hW1;rw[<-hW1];clear hW1;have⟨c0,c1,c2,c3⟩:=af (HX.o.bO rfl);have f1:=aj (HX.o.bO rfl) 1;have HS:=ag (show Bx w [ej k n' s (xL a 0 c),ej 0 0 () ()] (W1.setCell (w,1) n')by simpa [ej]using HX.o.set 0 1 rfl n');rcases hk with rfl|rfl|⟨h3,h4,rfl⟩;all_goals
  first
  |(have h5:=h3;go_upto_region 3 with fail;clear HS h3 h4 h5;have HS:Hd (Bx w [ej k n s (xL a 0 c),ej 0 0 () ()] W1):=HX;have⟨W2,hW2⟩:=bY (W1);rw[<-hW2]at HS⊢)
  |(go_wp2_with fail;refine(HN.o (by decide) _ HX.o.1).mono ?_;rintro e w3⟨rfl,rfl⟩;go_upto_region 3 with fail;have⟨W2,hW2⟩:=bY (w3.setCell (w,1) n');rw[<-hW2]at HS⊢)
  clear hW2 c0 c1 c2 c3 f1 HX;have⟨c0,c1,c2,c3⟩:=af (HS.o.bO rfl);have⟨b0,b1,b2,b3⟩:=af (HS.o.cg rfl);have d3:=aj (HS.o.bO rfl) 3;have⟨f0,f1,f2,f3⟩:=hZ (HS.o.cg rfl);go_wp2;go_loopg [5,7,24]0(λgg v5 _ iv wr=>gg=0/\v5=()/\iv=xI 0/\wr=W2);case atStart=>exact⟨rfl,rfl,rfl,rfl⟩
  case round=>
   obtain⟨rfl,rfl,rfl,rfl⟩:=hrel;go_wp2_with fail;refine Qae (v:= .agg #[xI _,xI _,s,()]) (by simp[results,results140,go_sem,c0,c1,c2,b0,b1,b2,b3,f0,f1,f2,f3]) rfl ⟨rfl,?_⟩;exact((((HS.o.1.setCell (p:=⟨w,3,none⟩) (by simp) _).setCell (p:=⟨[w],0,none⟩) (by simp) _).setCell (p:=⟨[w],1,none⟩) (by simp) _).setCell (p:=⟨[w],2,none⟩) (by simp) _).setCell (p:=⟨[w],3,none⟩) (by simp) _
theorem kT.JN {x:oh}{z:Nat}{p:qH}(h:kT x M z p W)(ha:FE M z p){rs:List bj}(o1:ao (λi=>i=p.mr) W W1)(hr:iq W1 p.mr rs):kT {x with aF:=rs} M z p W1/\ao (yR p z) W W1:=by
 have⟨⟨n1,n2,n3,n4,n5,n6⟩,⟨n7,n8,n9,n10⟩,⟨n11,n12,n13⟩,⟨n14,n15⟩,n16⟩:=ha.ne;have⟨sv,dv,kv,h1,h2,h3,h4,h5⟩:=h.st;have hzW:=h.low;have hs1:=o1.size;have hmr:kS p p.mr:=by unfold kS;simp
 have hb:∀i,kS p i->i≠p.mr->W1.heap[i]? =W.heap[i]? :=λi hi hne=>o1.block i (by have:=ha.lt i hi;omega) hne;have E:Ev (bu kv (nh M p)) W (bu kv (nh M p)) W1:=⟨o1.mono λi hi=> .inl (.inr (by have hi:i=p.mr:=hi;rw[hi];exact hmr)),λi hi=> .inl hi⟩;have a7:=h4.pA o1 (λi hi=> .inr (by have hi:i=p.mr:=hi;rw[hi];exact hmr)) (λg hg he=>by have h1:=(h4.cG g hg).1;have h2:g=p.mr:=he;have:=ha.lt p.mr hmr;omega);exact⟨⟨⟨sv,dv,kv,(hb p.T (by unfold kS;simp) n4).trans h1,h2.ev E,h3.ev E,a7,h5.ev E (hb p.mo (by unfold kS;simp) n11)⟩,h.reach.same (hb p.rb (by unfold kS;simp) n8),hr,(hb p.ms (by unfold kS;simp) (λe=>n14 e.symm)).trans h.snaps,h.seen.same (hb p.sb (by unfold kS;simp) (λe=>n15 e.symm)),Qcg h.low o1.size⟩,o1.mono λi hi=> .inl (by have hi:i=p.mr:=hi;rw[hi];exact hmr)⟩
def EY(t:oh)(M:aV)(z:Nat)(p:qH)(ha:FE M z p)(W:ax)(h:kT t M z p W)(id:Int)(n:aY)(hr:id∉t.reach)(hid: -20<=id/\id<0/\-id<=t.news)(hx:0<=t.next/\t.next<=1000000):
 xC 67 #[xP p.T,yr 3 id () n () () ()] W λe w'=>e=xR (.tuple #[])/\kT {t with aF:=mh t.aF ⟨n,t.next-id-1⟩} M z p w'/\ao (yR p z) W w':=by
 have HF:Hd (∀V,aC W V->_):=λV hb=>AS t M z p V (h.ae hb) id hr;have HN:Hd (∀V,aC W V->xC 142 #[xP p.T,id] V λe w'=>e=xR (xI (t.next-id-1))/\w'=V):=λV hb=>by
  have h1:=numberT_ok t M z p V (h.ae hb) id ⟨by omega,by omega⟩ hx;rw[if_pos hid.2.1]at h1;exact h1
 have qe0:Hd (∀V,aC W V->∃w',(Instr.mapUpdate 114 (.map (some p.mr)) n (xI (t.next-id-1))).run prog V= .ok () w'/\kT {t with aF:=mh t.aF ⟨n,t.next-id-1⟩} M z p w'/\ao (yR p z) W w'):=λV hb=>by
  have⟨w',e,h1,h2⟩:=(h.ae hb).aF.put (r:=⟨n,t.next-id-1⟩);have⟨h3,h4⟩:=(h.ae hb).JN ha h2 h1;exact⟨w',e,h3,(ao.az hb).cV h4 (λi hi _=>hi)⟩
 have HU:=ag (qg 101);have HX:=ag (Bx.eI W (gU 3 id () n () () ()));obtain⟨sv,dv,kv,h1,-⟩:=h.st;have CL:=ag h1;clear h hr h1 hx ha;obtain⟨g1,g2,g3⟩:=hid;generalize t.news=nw at*;generalize t.next=nx at*;go_enter func67,ntmps67;go_upto_region 1 with fail;have⟨W1,hW1⟩:=bY (W.alloc (gU 3 id () n () () ()));rw[<-hW1]at HX;unfold gU at hW1;rw[<-hW1];clear hW1;have nj:=ag (show W.heap.size<W1 by have:=HX.o.bQ;simp at this;omega);have s0:=(bM (HX.o.bO rfl)).c1;have s1:=(dJ ((HX.o.1.block _ (Qaa.1 CL.o).1).trans CL.o)).2.2.2.1;have FH:=ag (show decide (IntKind.i64.wrap (-id)<=nw)=true by rw[Qbe _ (by omega)];simpa using g3);go_cut [24](λ_ wx=>wx=W1.drew);case first=>
  go_region_law(first
   |(go_simp;go_at_call 143;refine(HF.o _ HX.o.1.drew).mono ?_;rintro e w2⟨rfl,rfl⟩)
   |(go_simp;rw[show decide (IntKind.i64.wrap (-id)<=nw)=true from FH.o];go_at_call 63;refine(HU.o _).mono ?_;rintro e w3⟨rfl,rfl⟩)
   |fail);all_goals(go_wp2;go_meet)
  all_goals exact rfl
 case rest=>
  obtain rfl:=hcut;clear s0 s1;have eZ:=ag HX.o.drew;go_upto_region 2 with fail;refine' lu 10 ?hl ?hm ?hB1 ?hB ?hh;case hl=>exact rfl
  case hm=>kernel_rfl
  case hB1=>kernel_rfl
  case hB=>kernel_rfl
  intro ι _ F jM yW;have s0:=λi=>(bM ((eZ.o.ae (jM i)).bO rfl)).c1;have s1:=λi=>(bM ((eZ.o.ae (jM i)).bO rfl)).c3;have s2:=λi=>(dJ (((eZ.o.ae (jM i)).1.block _ (Qaa.1 CL.o).1).trans CL.o)).2.2.2.2.2.2.1;have jq:=ag jM;have yL:=ag yW;clear jM yW;simp only[List.take_succ_cons,List.take_zero,Act.put,List.setIfInBounds_toArray,List.set_cons_zero,List.set_cons_succ];repeat(go_big_quiet_step(first
   |(go_at_call 142;refine(HN.o _ (eZ.o.ae (jq.o _)).1).mono ?_;rintro e w3⟨rfl,rfl⟩;exact⟨rfl,yL.o _ (jq.o _)⟩)))
  refine wpQuiet_nil ?_;rintro _⟨nq,rfl⟩;have⟨w4,e4,h4,o4⟩:=qe0.o _ (eZ.o.ae (jq.o nq)).1;have H4:=ag (And.intro h4 o4);clear h4 o4 s0 s1 s2;go_simp;go_wp2_with fail;exact bodyPost_end (results_none rfl _ _ _) rfl ⟨rfl,H4.o.1,H4.o.2⟩
def PM(w:ax)(k n:Int)(s:aY)(hs:s.size<=maxLen)(a:fx)(c:Nat)(hl:ab (α:=aJ) xF w (xL a 0 c) []):ab xF (w.alloc (xK #[k,n,s,xL a 0 c] 44)) (xL (w,0) 1 1) [aJ.mk k n s []]:=by
 refine⟨[[xI k,xI n,xS s,xL a 0 c]],(cF w #[k,n,s,xL a 0 c] 44 4 rfl (F:=λi=>¬False) (λh=>h)),rfl,λi cs x hc hx=> ?_⟩;cases i with
 |succ i=>simp at hx
 |zero=>
  simp at hc hx;subst hc;subst hx;exact eU.iff.2 ⟨_,rfl,hl.ae bU,hs⟩
def PN(t:oh)(M0:aV)(z:Nat)(p:qH)(W:ax)(ht:kT t M0 z p W)(Ym:0<=t.news/\t.news<=100)(k n:Int)(s:aY)(hk:(k=3\/k=4)->-t.news<=n/\n<0)(hs:s.size<=maxLen)(M:aV)(vv:aA)(hv0:ab M W vv [aJ.mk k n s []]):
 xC 137 #[xP p.T,vv] W (cu true W):=by
 have hv:ab xF W vv [aJ.mk k n s []]:=hv0.ev (Ev.dL W λi hi=>hi.elim);clear hv0;obtain⟨sv,dv,kv,hcell,-⟩:=ht.st;have CL:Hd (∀V,aC W V->bJ V p.T 5 t.news):=λV hb=>(dJ ((hb.block _ (Qaa.1 hcell).1).trans hcell)).2.2.2.1;clear ht hcell;generalize t.news=nw at*;obtain⟨qgy,qgz⟩:=Ym;generalize p.T=T at*;obtain⟨b,off,cap,za,zc,rfl,hbl,hsl,-,hcells⟩:=dy (i:=0) hv rfl;have gO:=ag hsl;have lM:=ag hcells;have HK:=ag hk;have q8:=ag hs;have cI:=ag (Bx.du W (xK #[xP T] 103) (xK #[true] 4));clear hv hcells hk hs hsl;dsimp only[List.length_cons,List.length_nil]at*;refine callsIn_wide.1 (callsIn_of_wp_marks (n:=0) func137 rfl trivial (wpIn_wide.2 ?_) rfl);simp only[ntmps137,List.size_toArray,Qcc,Qcd,Nat.reduceAdd,Nat.reduceSub,Array.replicate_succ,Array.replicate_zero,List.push_toArray,List.append_toArray,List.nil_append,List.cons_append];go_wp2_with fail;refine wp_scope_straight ?_;go_wp2_with fail;refine wp_label ?_;simp only[Exit.then];have⟨W1,hW1⟩:=bY ((W.alloc (xK #[xP T] 103)).alloc (xK #[true] 4));rw[<-hW1]at cI;rw[<-hW1];clear hW1;go_wp2_with fail;refine wp_loop_rounds 2 ?_;rw[rounds_succ];obtain⟨⟨g0,g1,g2,g3⟩,-⟩:=lM.o W1 cI.o.1;simp only[Nat.zero_mul,Nat.add_zero]at g0 g1 g2 g3;go_upto_region 5 with fail;have⟨W2,hW2⟩:=bY (W1.alloc (xK #[k,n,s,xL za 0 zc] 44));have bg:=ag (show Bx W _ W2 by rw[hW2];exact cI.o.alloc _);have eZ:=ag (show dk W2 W1 (xK #[k,n,s,xL za 0 zc] 44)by rw[hW2];exact Qbh W1 _);rw[<-hW2];clear hW2 g0 g1 g2 g3;have⟨c0,c1,c2,c3⟩:=af eZ.o;go_wp2_with fail;refine dw (mm _ 1 1 _) ?_;have⟨W4,hW4⟩:=bY ((W2.alloc (xK #[k,n,s,xL za 0 zc] 44)).alloc (xK #[xL (W2,0) 1 1] 42));have ek:=ag (show aC W2 W4 by rw[hW4];exact bU.alloc (by simp) _);have Nj:=ag (show bW W4 [W2] (xK #[xL (W2,0) 1 1] 42)by rw[hW4];have:=Qbh (W2.alloc (xK #[k,n,s,xL za 0 zc] 44)) (xK #[xL (W2,0) 1 1] 42);simpa using this);have Rf:=ag (show ab xF W4 (xL (W2,0) 1 1) [aJ.mk k n s []]by rw[hW4];exact(PM W2 k n s q8.o za zc (gO.o.ae bg.o.1)).ae bU);rw[<-hW4];clear hW4 c0 c1 c2 c3;have nQ:=ag (bg.o.ae ek.o);go_wp2_with fail;refine Iu [aJ.mk k n s []] (λv hv=>by rw[Qea.1 hv];exact⟨_,_,_,rfl⟩) xF [W2] W4 W4 dS _ Rf.o Nj.o rfl rfl ?_ ?_
 .intro lq m Wr hm XG hzr;obtain⟨rfl,hn1,hn2⟩:m=n/\-nw<=n/\n<0:=by
   have h:m∈Md (.mk k n s []):=by simpa [gz]using hm
   have h:m∈if k=3\/k=4 then[n]else[]:=h;by_cases hk:k=3\/k=4
   .rw[if_pos hk]at h;exact⟨Qea.1 h,HK.o hk⟩
   .rw[if_neg hk]at h;cases h
  have HR:=ag (nQ.o.ae XG);clear hm XG;gi_wp2_with(rw[Oper.semAt_eq _ _ _ (λc h=>by cases h)];go_simp;try go_bits);refine⟨dS,λW5 ho5 iL=> ?_⟩;have Fh:=ag (nQ.o.ae iL);have t0:ou W5 W 0 (xP T):=one_cell (Fh.o.bO rfl);have t1:=CL.o W5 Fh.o.1;have h1:¬m< -nw:=by omega
  have h2:¬m=0:=by omega
  have h3:¬0<m:=by omega
  gi_wp2_with(rw[Oper.semAt_eq _ _ _ (λc h=>by cases h)];go_simp;try go_bits);refine⟨trivial,?_⟩;gi_wp2_with(rw[Oper.semAt_eq _ _ _ (λc h=>by cases h)];go_simp;try go_bits);exact dS
 intro W5 iL hd5;have lE:=ag (nQ.o.ae iL);have HD5:=ag hd5;have Xf:=ag (show W.heap.size+2<=W4 by have:=nQ.o.bQ;simpa using this);clear iL hd5;have hok:yY W5 W 0 true:=one_cell (lE.o.cg rfl);go_simp;go_wp2_with fail;rw[rounds_succ];go_wp2_with fail;rw[Exit.noGoto_ret];refine⟨by simp, .inl ⟨_,_,rfl,run_takeDeferred HD5.o,?_⟩⟩;refine⟨xB true,by simp[results,results137,go_sem],rfl,?_⟩;exact bq lE.o.1 lE.o.1.size ((ao.refl (λj=>j=W4) W5).putObj (.inl rfl) _) (λj hj=>by have:j=W4:=hj;have:=Xf.o;omega)
theorem kT.bd {x:oh}{z:Nat}{p:qH}{kv:aA}(h:kT x M z p W)(ha:FE M z p)(h4:aS (nh M p) z 9 W kv x.reads):Bd (bu kv (nh M p)) W:=λi hi=>by
 have hz:=h.low;rcases hi with(hi|hi)|hi
 .have:=ha.far i hi;omega
 .have:=ha.lt i hi;omega
 .exact(h4.cG i hi).2
theorem kT.qcl {x:oh}{z:Nat}{p:qH}{W0:ax}(h:kT x M z p W0)(ha:FE M z p)(hb:aC W0 W)(m:Int)(o:bF)(vv:aA)(hv:ab (λi=>i<W0) W vv o.aZ):
 kT {x with made:=m} M z p (W.setCell (p.T,6) m)/\∃w',(Instr.mapUpdate 113 (.map (some p.mo)) o.id (qS o vv)).run prog (W.setCell (p.T,6) m)= .ok () w'/\kT {x with made:=m,aP:=mg x.aP o} M z p w'/\ao (yR p z) W0 w':=by
 have⟨⟨n1,n2,n3,n4,n5,n6⟩,⟨n7,n8,n9,n10⟩,⟨n11,n12,n13⟩,⟨n14,n15⟩,n16⟩:=ha.ne;have sU:=λ{kv:aA}(h4:aS (nh M p) z 9 W0 kv x.reads)=>h.bd ha h4;have⟨sv,dv,kv,h1,h2,h3,h4,h5⟩:=h.st;have hbk:=sU h4;have hz0:=h.low;have hzs:=hb.size;have hT:=ha.lt p.T (.inl rfl);have IT:kS p p.mo:=by unfold kS;simp
 have qg0:=ha.lt p.mo IT;have o7:ao (λi=>i=p.T) W (W.setCell (p.T,6) m):=(ao.refl (λi=>i=p.T) W).setCell (.inl rfl) _;have⟨V,hV⟩:=bY (W.setCell (p.T,6) m);rw[<-hV]at o7⊢;have hsv:=o7.size;have hcell:bW V p.T (qhe p sv x.next x.news m dv kv):=by
  rw[hV];have:=Qca W p.T 6 _ _ m (show bW W p.T (qhe p sv x.next x.news x.made dv kv)from(hb.block p.T (by omega)).trans h1);simpa [qhe]using this
 have hk:∀i,kS p i->i≠p.T->V.heap[i]? =W0.heap[i]? :=λi hi hne=>(o7.block i (by have:=ha.lt i hi;omega) hne).trans (hb.block i (by have:=ha.lt i hi;omega));have E:Ev (bu kv (nh M p)) W0 (bu kv (nh M p)) V:=⟨(ao.az hb).trans (o7.mono λi hi=> .inl (.inr (.inl hi))),λi hi=> .inl hi⟩;have a7:aS (nh M p) z 9 V kv x.reads:=(h4.ae hb).pA o7 (λi hi=> .inr (.inl hi)) (λg hg he=>by have h1:=(h4.cG g hg).1;have h2:g=p.T:=he;omega);have hob:=h5.ev E (hk p.mo IT (λe=>n2 e.symm));have hT1:kT {x with made:=m} M z p V:=⟨⟨sv,dv,kv,hcell,h2.ev E,h3.ev E,a7,hob⟩,h.reach.same (hk p.rb (by unfold kS;simp) (λe=>n1 e.symm)),h.aF.ev (hk p.mr (by unfold kS;simp) (λe=>n4 e.symm)),(hk p.ms (by unfold kS;simp) (λe=>n5 e.symm)).trans h.snaps,h.seen.same (hk p.sb (by unfold kS;simp) (λe=>n6 e.symm)),by omega⟩;refine⟨hT1,?_⟩;have hvV:ab (bu kv (nh M p)) V vv o.aZ:=hv.ev ⟨o7.mono λi hi=>(show i<W0 by have hi:i=p.T:=hi;omega),λi hi=> .inl (hbk i hi)⟩;have⟨w',e,h6,o8⟩:=hob.put (o:=o) (.inl (.inr IT)) hvV;have Zk:=o8.size;have hk2:∀i,kS p i->i≠p.mo->w'.heap[i]? =V.heap[i]? :=λi hi hne=>o8.block i (by have:=ha.lt i hi;omega) hne;have E2:Ev (bu kv (nh M p)) V (bu kv (nh M p)) w':=⟨o8.mono λi hi=> .inl (.inr (by have hi:i=p.mo:=hi;rw[hi];exact IT)),λi hi=> .inl hi⟩;have a8:aS (nh M p) z 9 w' kv x.reads:=a7.pA o8 (λi hi=> .inr (by have hi:i=p.mo:=hi;rw[hi];exact IT)) (λg hg he=>by have h1:=(h4.cG g hg).1;have h2:g=p.mo:=he;omega);refine⟨w',e,⟨⟨sv,dv,kv,(hk2 p.T (.inl rfl) n2).trans hcell,(h2.ev E).ev E2,(h3.ev E).ev E2,a8,h6⟩,hT1.reach.same (hk2 p.rb (by unfold kS;simp) n7),hT1.aF.ev (hk2 p.mr (by unfold kS;simp) (λe=>n11 e.symm)),(hk2 p.ms (by unfold kS;simp) (λe=>n12 e.symm)).trans hT1.snaps,hT1.seen.same (hk2 p.sb (by unfold kS;simp) (λe=>n13 e.symm)),by omega⟩,?_⟩;exact(ao.az hb).cV ((o7.mono λi hi=>(show yR p z i from .inl (.inl hi))).trans (o8.mono λi hi=>(show yR p z i from .inl (by have hi:i=p.mo:=hi;rw[hi];exact IT)))) (λi hi _=>hi)
def IB(hb:Below base (w.alloc o) w1)(vK:Ev (bu () (λi=>i<base)) (w.alloc o) M' w1):aC w w1:=by
 refine⟨hb.os,hb.tape,hb.output,by have:=hb.size;simp at this;omega,λi hi=> ?_⟩;have h0:=Qcb w o i hi;by_cases h:i<base
 .exact(hb.block i h).trans h0
 .exact(vK.1.block i (by simp;omega) (λhh=>by
   rcases hh with hh|hh
   .exact h hh
   .cases hh)).trans h0
def yA(t:oh)(M:aV)(z:Nat)(p:qH)(ha:FE M z p)(W:ax)(h:kT t M z p W)(hg:Gd W)(cL:aY)(kc:Nat)(l:aQ)(vO:dF t.jR)(hn:dx t.jR cL=kc)(hl:t.jR[kc]? =some l)
 (k n n':Int)(s:aY)(hk:(k=3\/k=4)->-t.news<=n/\n<0/\n'=t.next-n-1)(hk':¬(k=3\/k=4)->n'=n)(Ym:0<=t.news/\t.news<=100)(hs:s.size<=maxLen)(hv:bA (aT l l.aw.length).ah 100000 [aJ.mk k n' s []])(qbs:0<=t.made/\t.made<=100)(hx:0<=t.next/\t.next<=200000)(Bc:t.reads.length<=1000)(N:aV)(vv:aA)(hvv:ab N W vv [aJ.mk k n s []]):
 xC 65 #[xP p.T,yr 1 0 cL () vv () ()] W λe w'=>e=xR (.tuple #[])/\(∃t',oh.tV {t with made:=t.made+1,aP:=mg t.aP ⟨t.next+t.made,kc,l.aw.length,[aJ.mk k n' s []]⟩} ⟨#[115]⟩ t'/\kT t' M z p w')/\ao (yR p z) W w':=by
 have⟨i0,hi0,hz0,hz1,hz2⟩:=info_parts ie;have hco:=(vO.aK l (Qaf hl)).kA l.aw.length;have hcn:=(vO.aK l (Qaf hl)).ai l.aw.length;have sU:=λ{kv:aA}(h4:aS (nh M p) z 9 W kv t.reads)=>h.bd ha h4;have lM:Hd (∀V,aC W V->_):=λV hb=>Mj t M z p V (h.ae hb) vO.len cL kc hn;have HGO:Hd (∀V,aC W V->_):=λV hb=>PN t M z p V (h.ae hb) Ym k n s (λh=>⟨(hk h).1,(hk h).2.1⟩) hs N vv (hvv.ae hb);have XU:Hd (∀V,aC W V->_):=λV hb=>dy (i:=0) (hvv.ae hb) rfl;have FH:Hd (∀V a c,aC W V->_):=λV a c hb=>EX (xP p.T) k n n' s a c V (λvq V' hb'=>by
  have h1:=numberT_ok t M z p V' (h.ae (hb.trans (hb'.mono hb.size))) n ⟨by have:=hk vq;omega,by have:=hk vq;omega⟩ ⟨hx.1,by omega⟩;rw[if_pos (hk vq).2.1,<-(hk vq).2.2]at h1;exact h1) hk';have ZN:Hd (∀V uv,aC W V->ab (λi=>i<W) V uv [aJ.mk k n' s []]->_):=λV uv hb hu=>h.qcl ha hb (t.made+1) ⟨t.next+t.made,kc,l.aw.length,[aJ.mk k n' s []]⟩ uv hu;have HNU:Hd (∀V,kT {t with made:=t.made+1} M z p V->xC 142 #[xP p.T,xI (-(t.made+1))] V λe w'=>e=xR (xI (t.next+t.made))/\w'=V):=λV hT=>by
  have h1:=numberT_ok {t with made:=t.made+1} M z p V hT (-(t.made+1)) ⟨by omega,by omega⟩ ⟨hx.1,by show t.next<=_;omega⟩;rw[if_pos (by omega)]at h1;have e:t.next- -(t.made+1)-1=t.next+t.made:=by omega
  rw[<-e];exact h1
 have MH:Hd (∀V b off c,kT {t with made:=t.made+1,aP:=mg t.aP ⟨t.next+t.made,kc,l.aw.length,[aJ.mk k n' s []]⟩} M z p V->bJ V b off (xS ⟨#[115]⟩)->_):=λV b off c hT hc=>JP _ M z p ha V hT ⟨#[115]⟩ b off c hc Bc;have J3:=ag (qg 101);have Kh:=ag tU;have HX:=ag (Bx.eI W (gU 1 0 cL () vv () ()));have⟨sv,dv,kv,h1,h2,h3,h4,h5⟩:=h.st;have hbk:=sU h4;have WG:Hd (∀V,aC W V->_):=λV hb=>Er t.jR vO kc l hl (bu kv (nh M p)) V (hbk.ae hb) (hg.tb.ae hb) sv (h2.ae hb);have uh:Hd (∀V,aC W V->_):=λV hb=>Hw t.jR vO kc l hl l.aw.length bT (bu kv (nh M p)) V (hbk.ae hb) (hg.tb.ae hb) sv (h2.ae hb);have CC:Hd (∀V fv uv,aC W V->ab xF V fv (aT l l.aw.length).ah->ab xF V uv [aJ.mk k n' s []]->xC 141 #[.agg #[l.au.ai,fv],uv] V (cu (.tuple #[xI 0,xI 0]) V)):=λV fv uv hb hf hu=>by
  rw[<-hcn];exact ik _ hco.right (Qcg hco.small (by unfold maxLen;omega)) 100000 (Int.le_refl _) _ hv xF V fv uv hf hu (hg.tb.ae hb)
 have CL:=ag h1;have Fq:=ag hbk;obtain⟨sa,sc,rfl,-⟩:=h2.aq;obtain⟨b,off,cap,za,zc,rfl,hbl,-,-,hcells⟩:=dy (i:=0) hvv rfl;have XU:=ag hcells;have q8:=ag hs;have nN:Hd (∀V,aC W V->_):=λV hb=>dJ ((hb.block _ (Qaa.1 h1).1).trans h1);have MN:Hd (∀V,aC W V->_):=λV hb=>aj ((hb.block _ (Qaa.1 h1).1).trans h1) 6;clear h h1 h2 h3 h4 h5 hbk sU vO hn hl hk hk' Ym hs hv hvv hcells Bc ha hg hco hcn;dsimp only[List.length_cons,List.length_nil,Nat.zero_add]at*;generalize t.jR.length=sn at*;generalize t.news=nw at*;generalize re:t.next=nx at*;generalize yX:t.made=md at*;generalize T5:(l.aw.length:Int)=ll at*;obtain⟨V3,oF⟩:=qbs;obtain⟨Qb,hx1⟩:=hx;have HE1:=ag re;clear re;have Sz:=ag yX;clear yX;have HE3:=ag T5;clear T5;go_enter func65,ntmps65;go_upto_region 1 with fail;have⟨W1,hW1⟩:=bY (W.alloc (gU 1 0 cL () (xL (b,off) 1 cap) () ()));rw[<-hW1]at HX;unfold gU at hW1;rw[<-hW1];clear hW1;have k2:=(bM (HX.o.bO rfl)).c2;go_wp2_with fail;refine(lM.o _ HX.o.1).mono ?_;rintro e w2⟨rfl,bE⟩;have eZ:=ag (HX.o.ae bE);clear bE k2;have k8:=(bM (eZ.o.bO rfl)).c8;go_wp2_with fail;refine(HGO.o _ eZ.o.1).mono ?_;rintro e w3⟨rfl,hb3⟩;have ky:=ag (eZ.o.ae hb3);clear hb3 k8;go_wp2_with fail;refine(J3.o _).mono ?_;rintro e w4⟨rfl,rfl⟩;have q0:=(nN.o _ ky.o.1).1;go_wp2_with fail;refine(WG.o _ ky.o.1).mono ?_;rintro e w5⟨rfl,iL⟩;have lE:=ag (ky.o.ae iL);clear iL q0;go_wp2_with fail;refine(Kh.o _).mono ?_;rintro e w6⟨rfl,rfl⟩;have q0:=(nN.o _ lE.o.1).1;go_wp2_with fail;refine(uh.o _ lE.o.1).mono ?_;rintro e w7⟨_,rfl,⟨fv,rfl,hfv⟩,gP⟩;have MW:=ag (lE.o.ae gP);obtain⟨fa,fc,rfl,-⟩:=hfv.aq;have HFV:=ag hfv;generalize(aT l l.aw.length).ah.length=fn at*;clear gP q0 hfv;go_upto_region 6 with fail;have⟨W8,hW8⟩:=bY (w7.alloc (xK #[l.au.ai,xL fa fn fc] 47));have QP:=ag (show Bx W _ W8 by rw[hW8];exact MW.o.alloc _);have Ra:=ag (show aC w7 W8/\dk W8 w7 (xK #[l.au.ai,xL fa fn fc] 47)by rw[hW8];exact⟨bU,Qbh w7 _⟩);rw[<-hW8];clear hW8;go_wp2_with fail;refine(Kh.o _).mono ?_;rintro e w9⟨rfl,rfl⟩;have k8:=(bM (QP.o.bO rfl)).c8;go_wp2_with fail;refine wp_loop_rounds 2 ?_;rw[rounds_succ];obtain⟨⟨g0,g1,g2,g3⟩,-⟩:=XU.o w9 QP.o.1;simp only[Nat.zero_mul,Nat.add_zero]at g0 g1 g2 g3;clear k8;go_upto_region 11 with fail;have⟨W9,hW9⟩:=bY (w9.alloc (xK #[k,n,s,xL za 0 zc] 44));have CO:=ag (show Bx W _ W9 by rw[hW9];exact QP.o.alloc _);have X4:=ag (show aC w9 W9/\dk W9 w9 (xK #[k,n,s,xL za 0 zc] 44)by rw[hW9];exact⟨bU,Qbh w9 _⟩);rw[<-hW9];clear hW9 g0 g1 g2 g3;have⟨d0,d1,d2,d3⟩:=af X4.o.2;go_wp2_with fail;refine(FH.o _ _ _ CO.o.1).mono ?_;rintro e w10⟨rfl,ng⟩;have qbt:=ag (CO.o.ae ng);have qe1:Hd (W.heap.size<=w10):=qbt.o.1.size;have Un:Hd (aC w9 w10):=X4.o.1.trans (ng.mono X4.o.1.size);clear ng d0 d1 d2 d3;go_wp2_with(at_builtin;refine bo (α:=aJ) rfl _ _ _ rfl (λi=>i<W) W 44 i0 _ 56 underlying42 hi0 hz0 hz1 hz2 rfl (by decide) (.slice none 0 0) [] rfl (aS.nil _ _ _ _) (λ_=>True) _ [.int .i64 k, .int .i64 n', .string s, .slice none 0 0] (.mk k n' s []) rfl (fN _ _ #[.int .i64 k, .int .i64 n', .string s, .slice none 0 0] _ 4 rfl rfl trivial) (eU.iff.2 ⟨_,rfl,ab.nil _ _,q8.o⟩) (by unfold maxLen;simp) (by simp) (by have:=qe1.o;simp;omega) ?_;intro a2 c2 w11 hacc vK I8;have S9:=ag hacc;have qbu:Hd (aC w10 w11):=IB I8 vK;clear hacc vK I8);have qbv:Hd (aS (α:=aJ) (λi=>i<W) W 44 w11 (xL a2 1 c2) [aJ.mk k n' s []]):=S9.o;have qbw:=ag (qbt.o.ae qbu.o);have Xg:=ag (show dk w11 w7 (xK #[l.au.ai,xL fa fn fc] 47)/\aC w7 w11 by
  have h1:=Ra.o.1.size;have h2:=X4.o.1.size;have hl:=(Qaa.1 Ra.o.2).1;have hb:aC w9 w11:=(Un.o).trans (qbu.o.mono Un.o.size);exact⟨(hb.block _ hl).trans Ra.o.2,Ra.o.1.trans (hb.mono h1)⟩);clear S9;rw[rounds_succ];have e0:=(ak Xg.o.1).1;have e1:=(ak Xg.o.1).2;go_wp2_with fail;refine(CC.o _ _ _ qbw.o.1 ((HFV.o.ev (Ev.dL _ λi hi=>hi.elim)).ae Xg.o.2) ((qbv.o.slice λi hi=>hi).ev (Ev.dL _ λi hi=>hi.elim))).mono ?_;rintro e Xh⟨rfl,I9⟩;have Xi:=ag (qbw.o.ae I9);have qe2:Hd (ab (λi=>i<W) Xh (xL a2 1 c2) [aJ.mk k n' s []]):=(qbv.o.slice λi hi=>hi).ae I9;clear I9 e0 e1;go_wp2_with fail;refine(Kh.o _).mono ?_;rintro e w14⟨rfl,rfl⟩;have⟨hT1,w16,hput,hT2,ho2⟩:=ZN.o _ _ Xi.o.1 qe2.o;have Qx:=ag hT1;have Qa:=ag (And.intro hT2 ho2);have hf:=MN.o _ Xi.o.1;obtain⟨-,-,-,-,q6,q7,-⟩:=nN.o _ Xi.o.1;clear hT1 hT2 ho2;go_wp2_with fail;refine(HNU.o _ Qx.o).mono ?_;rintro e w17⟨rfl,Xj⟩;rw[<-Xj]at hput Qx;have qg1:Hd (w17=w14.setCell (p.T,6) (xI (md+1))):=Xj;clear Xj q6 hf;have hbo:∀(a b d:Int)(x:fx)(y:Nat)(W:ax),(Instr.build 66 #[(0,xI a),(1,xI b),(2,xI d),(3,xL x 1 y)]).run prog W= .ok (.agg #[a,b,d,xL x 1 y]) W:=λ_ _ _ _ _ W=>run_build W _ _ _ (by kernel_rfl);dsimp only[qS]at hput;clear q7;have q7:bJ w17 p.T 7 (.map (some p.mo)):=by
  obtain⟨sv',dv',kv',h1,-⟩:=Qx.o.st;exact(dJ h1).2.2.2.2.2.1
 go_wp2_with fail;have M3:∀o,(w16.alloc (xK #[xS ⟨#[115]⟩] o)).cell? (w16,0)=some (xS ⟨#[115]⟩):=λo=>one_cell (Qbh w16 _);clear q7 hput hbo;refine(MH.o _ _ 0 _ (Qa.o.1.ae bU) (M3 _)).mono ?_;rintro e w20⟨rfl,⟨t',h1,h2⟩,h3⟩;have HE:=ag (And.intro h1 (And.intro h2 h3));clear h1 h2 h3;go_wp2_with fail;refine bodyPost_end (results_none rfl _ _ _) rfl ⟨rfl,⟨t',?_,HE.o.2.1⟩,?_⟩
 .exact HE.o.1
 .exact(Qa.o.2.trans (ao.az bU)).trans HE.o.2.2
def Y7:aI:=⟨⟨#[99]⟩,[⟨⟨#[97]⟩,⟨1,0⟩,false⟩]⟩
def eF:aQ:=⟨Y7,[]⟩
def Nb:aW:=⟨[eF],[],[],5⟩
def sR:aJ:= .mk 1 3 () []
def vi:aY:=⟨#[104,111,109,101]⟩
def vj:pF:=⟨1,0,⟨#[99]⟩,(),[sR],⟨⟨#[]⟩,[]⟩⟩
def kq:pF:=⟨3,-1,(),vi,[],⟨⟨#[]⟩,[]⟩⟩
def gD:bF:=⟨5,0,0,[sR]⟩
def ox:bj:=⟨vi,5⟩
def Cg:aW:=⟨[eF],[gD],[ox],6⟩
def JV:dF [eF]where
 len:=by decide
 aK:=λl hl=>by
  rw[Qea.1 hl];exact⟨⟨by decide+kernel,λf hf=>by rw[Qea.1 hf];decide+kernel,by decide⟩,by simp[eF],_, .nil _⟩
 apart:=λk l h=>by
  cases k with
  |zero=>simp at h;subst h;decide+kernel
  |succ k=>simp at h
def PO:bA (aT eF eF.aw.length).ah 100000 [sR]:=⟨rfl,λi f v hf hv=>by
 cases i with
 |zero=>
  have hf:some _=some f:=hf;have hv:some sR=some v:=hv;simp at hf hv;subst hf;subst hv;exact .inr ⟨by decide, .inl ⟨rfl,3,rfl,by omega,by omega⟩⟩
 |succ i=>simp at hv⟩
def ke:aM vi=true/\vi.size<=20:=by decide+kernel
def yB:gx Nb where
 jR:=JV
 len:=by decide
 aP:=λi o h=>by simp[Nb]at h
 nI:=by simp[Nb,cA]
 refs:=λn y hy=>by simp[de,Nb,iS]at hy
 rlen:=by decide
 aF:=λr hr=>by simp[Nb]at hr
 mL:=λr hr=>by simp[Nb]at hr
 uK:=λi r s h=>by simp[Nb]at h
 next:=by decide
def EZ:iR [eF] 100000 gD 0 0 eF where
 cL:=rfl
 cQ:=rfl
 line:=rfl
 le:=by decide
 aZ:=PO
def Sf:refsOf eF 0 [sR]=[]:=by decide+kernel
def Sg:gx Cg where
 jR:=JV
 len:=by decide
 aP:=λi o h=>by
  cases i with
  |zero=>
   have h:some gD=some o:=h;simp at h;subst h;exact⟨by decide,by decide,0,0,eF,EZ⟩
  |succ i=>simp[Cg]at h
 nI:=by simp[Cg,cA]
 refs:=λn y hy=>by
  by_cases h5:gD.id=n
  .have e:iS Cg.aP n=some gD:=by simp[iS,Cg,h5]
   unfold de at hy;rw[e]at hy;have hy:y∈refsOf eF 0 [sR]:=hy;rw[Sf]at hy;cases hy
  .have e:iS Cg.aP n=none:=by simp[iS,Cg,h5]
   unfold de at hy;rw[e]at hy;cases hy
 rlen:=by decide
 aF:=λr hr=>by
  have hr:r∈[ox]:=hr;rw[Qea.1 hr];decide
 mL:=λr hr=>by
  have hr:r∈[ox]:=hr;rw[Qea.1 hr];exact ke
 uK:=λi r s h1 h2=>by simp[Cg]at h2
 next:=by decide
def ShJ(i:Nat)(t:oh):Prop:=∃L:List Int,(-1:Int)∉L/\((i=0/\t=⟨[eF],5,L,1,0,[],[],[],[]⟩)\/(i=1/\t=⟨[eF],5,L,1,1,[gD],[],[],[⟨#[115]⟩]⟩)\/(i=2/\t=⟨[eF],5,L,1,1,[gD],[ox],[],[⟨#[115]⟩]⟩))
def Vn {L:List Int}(hL:(-1:Int)∉L):vg ⟨[eF],5,L,1,0,[],[],[],[]⟩ vj (ShJ 1):=
 ⟨_, .inl ⟨rfl,rfl⟩,λM z p W vv df hA hT hG hv hd hz=>by
   obtain rfl:=hz.2 rfl;refine(yA _ M z p hA W hT hG ⟨#[99]⟩ 0 eF JV (show dx [eF] ⟨#[99]⟩=(0:Nat)by decide+kernel) rfl 1 3 3 () (λh=>by omega) (λ_=>rfl) ⟨show(0:Int)<=1 by decide,show(1:Int)<=100 by decide⟩ (by decide) PO ⟨show(0:Int)<=0 by decide,show(0:Int)<=100 by decide⟩ ⟨show(0:Int)<=5 by decide,show(5:Int)<=200000 by decide⟩ (show 0<=1000 by decide) _ vv hv).mono ?_;rintro e w'⟨rfl,⟨t',h1,h2⟩,h3⟩;refine⟨rfl,⟨t',⟨L,hL, .inr (.inl ⟨rfl,?_⟩)⟩,h2⟩,h3⟩;rcases h1 with⟨h1,_⟩|⟨_,rfl⟩
   .cases h1
   .rfl⟩
def Sh {L:List Int}(hL:(-1:Int)∉L):vg ⟨[eF],5,L,1,1,[gD],[],[],[⟨#[115]⟩]⟩ kq (ShJ 2):=
 ⟨_, .inr (.inl ⟨rfl,rfl⟩),λM z p W vv df hA hT hG hv hd hz=>by
   obtain rfl:=hz.1 rfl;obtain rfl:=hz.2 rfl;refine(EY _ M z p hA W hT (-1) vi hL ⟨by decide,by decide,show-(-1:Int)<=1 by decide⟩ ⟨show(0:Int)<=5 by decide,show(5:Int)<=1000000 by decide⟩).mono ?_;rintro e w'⟨rfl,h2,h3⟩;exact⟨rfl,⟨_,⟨L,hL, .inr (.inr ⟨rfl,rfl⟩)⟩,h2⟩,h3⟩⟩
def Vo {t:oh}(h:ShJ 2 t):Cd Nb t:=by
 obtain⟨L,hL,⟨e,_⟩|⟨e,_⟩|⟨_,rfl⟩⟩:=h
 .cases e
 .cases e
 .exact {
   recs:=⟨[],rfl,by simp,by
    show [zw gD,qI ox].Pairwise _;rw[List.pairwise_cons];refine⟨λb hb=> ?_,List.pairwise_singleton _ _⟩;rw[Qea.1 hb];decide+kernel,Cg,Sg,fW.cons (EN (x:=Nb) (r:=pE gD) JV rfl EZ ⟨by decide,by decide⟩ ⟨by decide,by decide⟩) (fW.cons (AO (x:=⟨[eF],[gD],[],6⟩) (r:=kC ox) rfl ⟨ke.1,by have:=ke.2;unfold maxLen;show vi.size<=_;omega⟩ ⟨by decide,by decide⟩) (fW.nil _))⟩
   nI:=by simp[cA]
   x9:=by simp[eN]
   mL:=λr hr=>by rw[Qea.1 hr];have:=ke.2;unfold maxLen;show vi.size<=_;omega
   olen:=by simp
   rlen:=by simp}
def E0(hG:Gd w):∀o∈[vj,kq],tY M w o:=by
 intro o ho;rcases Qdf.1 ho with rfl|ho
 .intro W vv df hb h1 h2 hz;obtain rfl:=hz.2 rfl;have hvo:dI ⟨1,0⟩ 100000 sR:= .inr ⟨by decide, .inl ⟨rfl,3,rfl,by omega,by omega⟩⟩;exact qhd ⟨#[99]⟩ (by decide+kernel) [sR] (λy hy=>by rw[Qea.1 hy];exact⟨_,_,_,rfl⟩) (λy hy=>by rw[Qea.1 hy];exactλM w u hu hT=>rP hvo (Int.le_refl _) hu hT) (by decide) M vv W (hG.tb.ae hb) h1
 .rw[Qea.1 ho];intro W vv df hb h1 h2 hz;obtain rfl:=hz.1 rfl;obtain rfl:=hz.2 rfl;exact sN (-1) vi ke.1 (.inr ⟨by decide,by decide⟩) W
def Ml(M:aV)(w:ax)(hM:Bd M w)(hG:Gd w)(lv qv:aA)(js:ab M w lv [eF])(hq:ab M w qv [vj,kq]):
 xG 9 #[.agg #[lv,(),(),xI 5],qv] w λu w'=>∃(cv kv:aA),u= .tuple #[cv,kv,xI 6,xI 0]/\ab M w' cv [pE gD,kC ox]/\ab M w' kv [(⟨#[115]⟩:aY)]:=by
 refine(PK Nb yB [vj,kq] (by decide) M w hM hG lv () () qv js (ab.nil _ _) (ab.nil _ _) hq (E0 hG) (.inr (by decide)) (λo ho=>⟨?_,?_⟩) ShJ (λL hL _=>⟨L,λh=> ?_, .inl ⟨rfl,rfl⟩⟩) (λi o t ho hj=> ?_) (λt hj=>Vo hj)).mono ?_
 .rcases Qdf.1 ho with rfl|ho
  .decide
  .rw[Qea.1 ho];decide
 .rcases Qdf.1 ho with rfl|ho
  .exact⟨λv hv=>(by rw[Qea.1 hv];exact⟨_,_,_,rfl⟩),λn hn=>(by cases hn)⟩
  .rw[Qea.1 ho];exact⟨λ_ hv=>(by cases hv),λ_ hv=>(by cases hv)⟩
 .have:=AY yB ((hL _).1 h);omega
 .obtain⟨L,hL,⟨rfl,rfl⟩|⟨rfl,rfl⟩|⟨rfl,rfl⟩⟩:=hj
  .have ho:some vj=some o:=ho;simp at ho;subst ho;exact Vn hL
  .have ho:some kq=some o:=ho;simp at ho;subst ho;exact Sh hL
  .simp at ho
 .rintro e w'⟨u,rfl,⟨t,ds,cv,kv,hj,hds,rfl,h1,h2⟩,hb⟩;obtain⟨L,hL,⟨e,_⟩|⟨e,_⟩|⟨_,rfl⟩⟩:=hj
  .cases e
  .cases e
  .have e0:ds=[]:=by
    have h:([]:List ec)=ds.map Subtype.val:=hds;exact List.map_eq_nil_iff.1 h.symm
   rw[e0]at h1;exact⟨_,rfl,⟨cv,kv,rfl,h1,h2⟩,hb⟩
def fT {cs:Array aA}{fr:Nat×Nat}(h:bW W g (.cells cs t fr))(size n:Nat)(hn:n<=1000)(hs:cs.size=n*size)(hF:F g):ct F W size (xL (g,0) n n) n cs.toList:=by
 refine⟨by simp[hs],some ⟨g,0,none⟩,n,rfl,bT,by unfold maxLen;omega,λ_=>⟨g,0,rfl,hF,(Qaa.1 h).1,λj u hu=> ?_⟩⟩;simp only[World.cell?,h,Nat.zero_add];simpa using hu
def Mt {l:List aY}(h:ab M w v l){x:aY}(hx:l[i]? =some x):∃b off cap,v=xL (some ⟨b,off,none⟩) l.length cap/\b<w.heap.size/\∀W,aC w W->bJ W b (off+i) x:=by
 obtain⟨a,cap,rfl,hl,_,hc⟩:=h.aq;have hk:=(Qad.1 hx).1;obtain⟨b,off,rfl,_,hb,hcell⟩:=hc (by omega);have⟨cs,hcs,hcc⟩:=hcell i _ hx;have hcs:cs=[xS x]:=hcs;subst hcs;refine⟨b,off,cap,rfl,hb,λW hB=> ?_⟩;have h1:=hcc 0 x rfl;have e:off+i*aD.size aY+0=off+i:=by show off+i*1+0=off+i;omega
 exact(hB.cell (p:=⟨b,off+i,none⟩) hb).trans (by rw[<-e];exact h1)
def Si {f:Nat}(h1:bW W f (xK #[xS ⟨#[97]⟩,xI 1,xI 0,false] 60))(h2:bW W g (xK #[xS ⟨#[99]⟩,xL (f,0) 1 1,()] 72)):ab xF W (xL (g,0) 1 1) [eF]:=by
 refine⟨[[xS ⟨#[99]⟩,xL (f,0) 1 1,()]],fT h2 3 1 (by omega) rfl (λh=>h),rfl,λi cs x hc hx=> ?_⟩;cases i with
 |succ i=>simp at hx
 |zero=>
  simp at hc hx;subst hc;subst hx;refine⟨_,_,rfl,⟨[[xS ⟨#[97]⟩,xI 1,xI 0,xB false]],fT h1 4 1 (by omega) rfl (λh=>h),rfl,λi cs x hc hx=> ?_⟩,ab.nil _ _,by decide⟩;cases i with
  |succ i=>
   have hx:([]:List aH)[i]? =some x:=hx;simp at hx
  |zero=>
   have hx:some (⟨⟨#[97]⟩,⟨1,0⟩,false⟩:aH)=some x:=hx;simp at hc hx;subst hc;subst hx;exact⟨rfl,by decide⟩
def PS {v:Nat}(h:bW W v (xK #[xI 1,xI 3,"",()] 44)):ab xF W (xL (v,0) 1 1) [sR]:=by
 refine⟨[[xI 1,xI 3,"",()]],fT h 4 1 (by omega) rfl (λh=>h),rfl,λi cs x hc hx=> ?_⟩;cases i with
 |succ i=>simp at hx
 |zero=>
  simp at hc hx;subst hc;subst hx;exact eU.iff.2 ⟨_,rfl,ab.nil _ _,by decide⟩
def Vr {v q:Nat}(hv:bW W v (xK #[xI 1,xI 3,"",()] 44))
 (hq:bW W q (.cells (ET vj (xL (v,0) 1 1) ()++ET kq () ()).toArray 53 (0,0))):ab xF W (xL (q,0) 2 2) [vj,kq]:=by
 refine⟨[ET vj (xL (v,0) 1 1) (),ET kq () ()],fT hq 19 2 (by omega) rfl (λh=>h),rfl,λi cs x hc hx=> ?_⟩;cases i with
 |zero=>
  simp only[List.getElem?_cons_zero,Qcf]at hc hx;subst hc;subst hx;exact⟨_,_,rfl,PS hv,ab.nil _ _,λh=>(by cases h),λ_=>rfl⟩
 |succ i=>
  cases i with
  |zero=>
   simp only[List.getElem?_cons_succ,List.getElem?_cons_zero,Qcf]at hc hx;subst hc;subst hx;exact⟨_,_,rfl,ab.nil _ _,ab.nil _ _,λ_=>rfl,λ_=>rfl⟩
  |succ i=>simp at hx
def PT {q:Nat}(o:pF)(hv:o.aZ=[])(hf:o.Cj.ah=[])
 (hq:bW W q (.cells (ET o () ()).toArray 53 (0,0))):ab xF W (xL (q,0) 1 1) [o]:=by
 refine⟨[ET o () ()],fT hq 19 1 (by omega) rfl (λh=>h),rfl,λi cs x hc hx=> ?_⟩;cases i with
 |zero=>
  simp only[List.getElem?_cons_zero,Qcf]at hc hx;subst hc;subst hx;exact⟨_,_,rfl,by rw[hv];exact ab.nil _ _,by rw[hf];exact ab.nil _ _,λ_=>rfl,λ_=>rfl⟩
 |succ i=>simp at hx
def Sj {v q:Nat}(hv:bW W v (xK #[xI 1,xI 3,"",()] 44))
 (hq:bW W q (.cells (vE (pE gD) (xL (v,0) 1 1) ()++vE (kC ox) () ()).toArray 75 (0,0))):ab xF W (xL (q,0) 2 2) [pE gD,kC ox]:=by
 refine⟨[vE (pE gD) (xL (v,0) 1 1) (),vE (kC ox) () ()],fT hq 18 2 (by omega) rfl (λh=>h),rfl,λi cs x hc hx=> ?_⟩;cases i with
 |zero=>
  simp only[List.getElem?_cons_zero,Qcf]at hc hx;subst hc;subst hx;exact⟨_,_,rfl,PS hv,ab.nil _ _,by decide,by decide⟩
 |succ i=>
  cases i with
  |zero=>
   simp only[List.getElem?_cons_succ,List.getElem?_cons_zero,Qcf]at hc hx;subst hc;subst hx;exact⟨_,_,rfl,ab.nil _ _,ab.nil _ _,by decide,by decide⟩
  |succ i=>simp at hx
def Sk:∀r∈[pE gD,kC ox],Vq r:=by
 intro r hr;rcases Qdf.1 hr with rfl|hr
 .exact⟨rfl,rfl,rfl,λy hy=>by rw[Qea.1 hy];exact⟨_,_,_,rfl⟩,by decide⟩
 .rw[Qea.1 hr];exact⟨rfl,rfl,rfl,λy hy=>(by cases hy),by decide⟩
def PU(n:Int)(w:ax):xC 13 #[n] w (cu (.agg #[xI 1,n,"",()]) w):=by
 have sU:∀W,(Instr.build 44 #[(0,xI 1),(1,xI n)]).run prog W= .ok (.agg #[xI 1,n,"",()]) W:=λW=>run_build W _ _ _ (by kernel_rfl);have HX:=ag (Bx.eI w (ej 0 0 () ()));go_enter func13,ntmps13;go_upto_region 1 with fail;have⟨W1,hW1⟩:=bY (w.alloc (ej 0 0 () ()));rw[<-hW1]at HX;unfold ej at hW1;rw[<-hW1];clear hW1;have⟨b0,b1,b2,b3⟩:=af (HX.o.bO rfl);have⟨f0,f1,f2,f3⟩:=hZ (HX.o.bO rfl);go_wp2_with fail;refine Qae (v:= .agg #[xI 1,n,"",()]) (by simp[results,results13,go_sem,b0,b1,b2,b3,f0,f1,f2,f3]) rfl ⟨rfl,?_⟩;exact(((HX.o.1.setCell (p:=⟨w,0,none⟩) (by simp) _).setCell (p:=⟨w,1,none⟩) (by simp) _).setCell (p:=⟨w,2,none⟩) (by simp) _).setCell (p:=⟨w,3,none⟩) (by simp) _
end Go.Proofs.YtepaofffbkfodaaGreatDoor
