/- A part of OpReads's proof; no condition. -/
import Derived.Test.YtepaofffbkfodaaGreatDoorM13
import Derived.LoopIn
import Derived.RegionIn
set_option linter.all false
set_option maxHeartbeats 8000000
set_option maxRecDepth 100000
namespace Go.Proofs.YtepaofffbkfodaaGreatDoor
open Tryz
variable{s:aM}{i p b cap k B bm:Nat}{w0 w A w':aj}{M N:aN}{v:an}{a:fA}{t:TypeId}{vs:List aA}{c:ax}
section
open Go.RowKit Go.Shelf
attribute [local go_sem]Oper.semAt_some
def lD(s:aM)(a:Nat)(ts:List Tok):Prop:=∃f,eH f (s.data.toList.drop a) a=some ts
theorem lD.space {a:Nat}{ts:List Tok}(h:lD s a ts)(ha:a<s.size)(hc:(s[a]'ha).toNat=32):lD s (a+1) ts:=by
 obtain⟨f,hf⟩:=h;have hl:s.data.toList.drop a=s[a]'ha::s.data.toList.drop (a+1):=by
  rw[List.drop_eq_getElem_cons (by rw[bq];exact ha)];rfl
 rw[hl]at hf;cases f with
 |zero=>simp[eH]at hf
 |succ f=>
  unfold eH at hf;rw[if_pos (by rw[<-UInt8.toNat_inj];simpa using hc)]at hf;exact⟨f,hf⟩
theorem lD.end_ {ts:List Tok}(h:lD s s.size ts):ts=[]:=by
 obtain⟨f,hf⟩:=h;rw[List.drop_of_length_le (by rw[bq];exact bN)]at hf;cases f<;>simp[eH]at hf<;>exact hf
theorem lD.next {a:Nat}{ts:List Tok}(h:lD s a ts)(ha:a<s.size)(hc:(s[a]'ha).toNat≠32):∃kd n str size RQ,ts=⟨kd,n,str,a⟩::RQ/\rK (s.data.toList.drop a)=some ((kd,n,str),size)/\lD s (a+size) RQ:=by
 obtain⟨f,hf⟩:=h;have hl:s.data.toList.drop a=s[a]'ha::s.data.toList.drop (a+1):=by
  rw[List.drop_eq_getElem_cons (by rw[bq];exact ha)];rfl
 rw[hl]at hf;cases f with
 |zero=>simp[eH]at hf
 |succ f=>
  unfold eH at hf;rw[if_neg (by intro e;apply hc;rw[e];rfl),<-hl]at hf;split at hf
  .cases hf
  .rename_i kd n str size hx;split at hf
   .cases hf
   .rw[Option.map_eq_some_iff]at hf;obtain⟨RQ,h1,h2⟩:=hf;refine⟨kd,n,str,size,RQ,h2.symm,hx,f,?_⟩;rw[List.drop_drop]at h1;exact h1
def O1 {T rest:List Tok}(h:T=T.take i++rest)(hi:i<=T.length)(hr:rest=[]):i=T.length:=by
 subst hr;have:=congrArg List.length h;simp at this;omega
def LR {T rest RQ:List Tok}{t:Tok}(h:T=T.take i++rest)(hi:i<=T.length)(hr:rest=t::RQ):T[i]? =some t/\T=T.take (i+1)++RQ/\i+1<=T.length:=by
 subst hr;have hl:(T.take i).length=i:=by rw[Qdb];omega
 have h1:T[i]? =some t:=by
  rw[h,Qbd (by omega),hl];simp
 refine⟨h1,?_,(Qad.1 h1).1⟩;rw[Qbb,h1,List.append_assoc];exact h
def Hn(T:List Tok)(i:Nat)(args:Array an)(j:Nat)(_:aj):Prop:=∃t,T[i]? =some t/\args= #[km t.kind t.n (bL t.s) t.at_]/\j=i+1/\t.kind≠0
structure DY(s:aM)(p:Nat)(w0 w A:aj):Prop where
 below:aq w0 A
 cell:A.cell? ⟨p,0,none⟩=some (xS s)
 size:w.heap.size+2<=A.heap.size
theorem DY.round {B:aj}{C:aN}(h:DY s p w0 w A)(ho:ai (rdS C w 0) A B)(hC:∀i,C i->w0.heap.size<=i)(hw:w0.heap.size<=w.heap.size)(hp:p<w.heap.size)(hCp:¬C p):DY s p w0 w B:=
 ⟨DD h.below ho hC hw,(ho.cell (p:=⟨p,0,none⟩) (by have:=h.size;show p<_;omega) (by rintro((h|h)|h);exact hCp h;(have:_<=p:=h;omega);(have:p=_:=h;omega))).trans h.cell,Qcg h.size ho.size⟩
theorem DY.own {B:aj}(h:DY s p w0 w A)(hb:aq A B)(hw:w0.heap.size<=w.heap.size)(hp:p<w.heap.size):DY s p w0 w B:=
 ⟨h.below.trans (hb.mono (by have:=h.size;omega)),(hb.cell (p:=⟨p,0,none⟩) (by have:=h.size;show p<_;omega)).trans h.cell,Qcg h.size hb.size⟩
def AB(s:aM)(a:Nat)(ha:a<=s.size):(s.extract a s.size).data.toList=s.data.toList.drop a/\(s.extract a s.size).size=s.size-a:=by
 have h1:(s.extract a s.size).data.toList=s.data.toList.drop a:=by
  rw[Lib.extract_data,Qah];rw[List.length_drop,bq];exact bN
 exact⟨h1,by rw[<-bq,h1,List.length_drop,bq]⟩
def Ho(s:aM)(hs:s.size<=200)(T:List Tok)(hT:lD s 0 T)(p:Nat)(w0 w:aj)(hw:aq w0 w)(hT0:Tb w0)(hp:bt w p 0 (xS s))(ij:p<w.heap.size)(C:aN)(hCp:¬C p)(hC:∀i,C i->w0.heap.size<=i):
 G9 prog 310 #[xP p] w C 0 0 (Hn T) (λi=>i=T.length):=by
 intro J Jx W hz hb hJ UF hY h0;have HJ:=af hJ;have HJX:=af UF;have HY:=af hY;have CU:=hw.size;have HP0:Hd (DY s p w0 w W):=⟨hw.trans (hb.mono CU),(hb.cell (p:=⟨p,0,none⟩) ij).trans hp,by omega⟩;have QD:Hd (∀a A kd n str size,a<=s.size->rK (s.data.toList.drop a)=some ((kd,n,str),size)->aq w0 A->(xC 311 #[xS (s.extract a s.size)] A (cr (.tuple #[km kd n (bL str) 0,xI (size:Int)]) A))/\0<size/\size<=s.size-a/\1<=kd):=λa A kd n str size ha hx hb=>by
  obtain⟨e1,e2⟩:=AB s a ha;rw[<-e1]at hx;have h:=O0 (s.extract a s.size) (by omega) kd n str size hx A (hT0.below hb);rw[e2]at h;exact h
 have Ws:=af hT;have Ty:=af h0;clear hJ UF hY hT h0 hT0 hp hz hb;refine callsIn_of_wp func310 rfl trivial ?_ rfl;simp only[ntmps310,List.size_toArray,Qcc,Qcd,Nat.reduceAdd,Nat.reduceSub,Array.replicate_succ,Array.replicate_zero,List.push_toArray,List.append_toArray,List.nil_append,List.cons_append];gi_wp2_with fail;gi_loopw [3,4,5](λk _ _ wr=>∃(a i:Nat)(rest:List Tok),k=xI a/\a<=s.size/\Hd (lD s a rest)/\Hd (T=T.take i++rest/\i<=T.length)/\Hd (J i wr)/\Hd (DY s p w0 w wr))(λk _ _ _=>s.size-(intOf k).toNat);case atStart=>
  exact⟨0,0,T,rfl,Qbf _,Ws,(show _/\_ from⟨by simp,Qbf _⟩),Ty,HP0⟩
 case round=>
  obtain⟨a,i,rest,rfl,ha,HL,HI,QY,HP⟩:=hrel;have c0:=HP.o.cell;gi_wp2_with fail;gi_loop [3](λk=>∃b:Nat,k=xI b/\a<=b/\b<=s.size/\Hd (lD s b rest))(λk=>s.size-(intOf k).toNat);case atStart=>exact⟨a,rfl,bN,ha,HL⟩
  case round=>
   obtain⟨b,rfl,hab,hbs,HLB⟩:=hrel;by_cases bu:b<s.size
   .obtain⟨d,hd⟩:=jO (((s[b]'bu).toNat:Int));have q1:∀h,((s[b]'h).toNat:Int)=d:=λ_=>hd;by_cases RH:d=32
    .have e32:(d==32)=true:=by simpa using RH
     have qs:Hd (lD s (b+1) rest):=HLB.o.space bu (by omega);clear hd RH;gi_wp2_with fail;go_round;case rel=>exact⟨b+1,by go_num,by omega,by omega,qs⟩
     case measure=>simp[intOf];omega
    .have e32:(d==32)=false:=by simpa using RH
     obtain⟨kd,n,str,size,RQ,vJ,hx,Bh⟩:=HLB.o.next bu (by omega);obtain⟨bK,Bl,fu,NM⟩:=QD.o b wr kd n str size hbs hx HP.o.below;have br:=af bK;have qs:=af Bh;have zg:=af vJ;have hbz:((b:Int)==(s.size:Int))=false:=by simp;omega
     clear bK Bh vJ hx hd RH;gi_wp2_with fail;refine⟨trivial,rfl,(callsIn_wide.2 br.o).mono ?_⟩;rintro e w1⟨rfl,aF⟩;have aY:Hd (aq wr (w1.alloc (xK #[xI kd,xI n,xS (bL str),xI b] 359))):=aF.alloc aF.size _;clear aF;obtain⟨CW,CX,ht3⟩:=LR HI.o.1 HI.o.2 zg.o;obtain⟨fn,tmps,assign,body,hy,hR⟩:=HY.o i #[km kd n (bL str) b] (i+1) _ (HJ.o i wr _ QY.o (ai.ao aY.o)) ⟨_,CW,rfl,rfl,by show kd≠0;omega⟩;have HR:=af hR;have me:Hd (T=T.take (i+1)++RQ/\i+1<=T.length):=⟨CX,ht3⟩;have Nh:=af (HP.o.own aY.o CU ij);clear hR CW CX ht3 c0 q1;unfold km at hy⊢;gi_wp2_with fail;refine⟨rfl,HR.o.mono ?_⟩;rintro e W3(⟨rfl,WV,Bm⟩|⟨rfl,Js⟩)
     .have UG:=af WV;have Ye:=af (Nh.o.round Bm hC CU ij hCp);have qha:((size:Int)==0)=false:=by simp;omega
      clear WV Bm hy;gi_wp2_with fail;go_roundw;case rel=>exact⟨b+size,i+1,RQ,by go_num,by omega,qs,me,UG,Ye⟩
      case measure=>simp[intOf];omega
     .have QZ:=af Js;clear Js hy;gi_wp2_with fail;refine Qae (results_none rfl _ _ _) rfl ?_;exact⟨⟨_,rfl⟩, .inr QZ.o⟩
   .obtain rfl:b=s.size:=by omega
    have KH:rest=[]:=HLB.o.end_;have HE:Hd (i=T.length):=O1 HI.o.1 HI.o.2 KH;clear KH;gi_wp2_with fail;refine Qae (results_none rfl _ _ _) rfl ?_;exact⟨⟨_,rfl⟩, .inl (by first|exact⟨i,HE.o,QY.o⟩|(rw[<-HE.o];exact QY.o))⟩
end
section
open Go.RowKit
structure sA(w0 w:aj)(M:aN)(q b:Nat)(n:Int):Prop where
 blk:w.heap[q]? =some (Ue b n)
 binds:eP w b
 low:aq w0 w
 hq:w0.heap.size<=q
 ne:b≠q
 mq:M q
theorem sA.lt {q:Nat}{n:Int}(h:sA w0 w M q b n):q<w.heap.size:=(Qaa.1 h.blk).1
def xT {q:Nat}(h:aq w0 w)(k:ai (λi=>i=q) w w')(hq:w0.heap.size<=q):aq w0 w':=
 ⟨k.os.trans h.os,k.tape.trans h.tape,k.output.trans h.output,Qcg h.size k.size,λi hi=>(k.block i (Qde hi h.size) (λe=>by have:i=q:=e;omega)).trans (h.block i hi)⟩
theorem sA.below {q:Nat}{n:Int}(h:sA w0 w M q b n)(k:aq w w'):sA w0 w' M q b n:=
 ⟨(k.block q h.lt).trans h.blk,h.binds.below k,h.low.trans (k.mono h.low.size),h.hq,h.ne,h.mq⟩
theorem sA.SC {q:Nat}{n m:Int}(h:sA w0 w M q b n)(k:ai (λi=>i=q) w w')(hb:w'.heap[q]? =some (Ue b m)):sA w0 w' M q b m:=
 ⟨hb,h.binds.only k h.ne,xT h.low k h.hq,h.hq,h.ne,h.mq⟩
def J4 {q:Nat}(hq:M q)(k:ai (λi=>i=q) w w'):Ev M w M w':=⟨k.mono λi hi=>by have:i=q:=hi;rw[this];exact hq,λ_ h=> .inl h⟩
theorem qP:∀l:List aw,l.length<=dp l
 |[]=>by simp
 |e::r=>by have:=qP r;have:=tV e;simp only[dp,Qcc];omega
def xU {l:List aw}(h:ab M w v l){k n:Int}{ll:List aw}(hx:l[i]? =some (.mk k n s ll)):∃b off cap a c,v=xL (some ⟨b,off,none⟩) l.length cap/\b<w.heap.size/\¬M b/\ab M w (xL a ll.length c) ll/\s.size<=maxLen/\bt w b (off+i*4) (xI k)/\bt w b (off+i*4+1) (xI n)/\bt w b (off+i*4+2) (xS s)/\bt w b (off+i*4+3) (xL a ll.length c):=by
 obtain⟨a,cap,rfl,hl,_,hc⟩:=h.open_;have hk:=(Qad.1 hx).1;obtain⟨b,off,rfl,hM,hb,aL⟩:=hc (by omega);obtain⟨cs,hr,bJ⟩:=aL i _ hx;obtain⟨av,rfl,hs,hsz⟩:=cH.iff.1 hr;have j6:=hs;obtain⟨a,c,rfl,_⟩:=j6.open_;exact⟨b,off,cap,a,c,rfl,hb,hM,hs,hsz,bJ 0 _ rfl,bJ 1 _ rfl,bJ 2 _ rfl,bJ 3 _ rfl⟩
def xV {k n:Int}{l:List aw}(h:ab M w (xL a l.length cap) l)(hs:s.size<=maxLen):ct M w (.agg #[xI k,xI n,xS s,xL a l.length cap]) (aw.mk k n s l):=⟨_,rfl,cH.iff.2 ⟨_,rfl,h,hs⟩⟩
def Hr:∀(N:Nat)(e:aw),ek e<=N->∀(w0:aj),Tb w0->∀(M:aN)(w:aj)(v:an)(q b:Nat)(n depth:Int),ct M w v e->iw e=true->sA w0 w M q b n->1<=depth->depth+kM e<=9->0<=n->n+ek e<=40->
 xC 315 #[xP q,v,xI depth] w λe' w'=>e'=xR (xB true)/\w'.heap[q]? =some (Ue b (n+ek e))/\ai (λi=>i=q) w w':=by
 intro N;induction N with
 |zero=>intro e he;have:=tV e;omega
 |succ N ih=>
  intro e he w0 hT M w v q b n depth gq Tg WZ Wd hd yJ hn;obtain⟨k,en,s,l⟩:=e;obtain⟨a,cap,rfl,bI⟩:=eC gq;have ke:s.size<=maxLen:=by obtain⟨cs,_,hr⟩:=gq;obtain⟨_,_,_,h⟩:=cH.iff.1 hr;exact h
  simp only[iw,Qce]at Tg;obtain⟨yN,KD⟩:=Tg;have hsz:s.size<=200:=by have:=wP yN;rw[bq]at this;exact this
  simp only[ek]at he hn;simp only[kM]at hd;have qaz:l.length<=cap/\cap<=9223372036854775807:=by obtain⟨_,_,e,h1,h2,_⟩:=bI.open_;cases e;exact⟨h1,h2⟩
  obtain⟨QU,QV⟩:=qaz;have qd4:l.length<=40:=by have:=qP l;omega
  have hqw:=WZ.lt;have TF:q≠w.heap.size:=by omega
  obtain⟨r0,r1⟩:=ah WZ.blk;have f1:=ag WZ.blk 1;have hd8:¬depth>8:=by omega
  have qhe:¬n+1>40:=by omega
  obtain⟨W1,bT⟩:=bS ((w.setCell ⟨q,1,none⟩ (xI (n+1))).alloc (xK #[xI k,xI en,xS s,xL a l.length cap] 319));have rE:=af (show ai (λi=>i=q) w W1 by rw[bT];exact((ai.refl (λi=>i=q) w).setCell (p:=⟨q,1,none⟩) (.inl rfl) _).alloc _);have ot:Hd (sA w0 W1 M q b (n+1)):=WZ.SC rE.o (by
   rw[bT];have h1:=Qca w q 1 _ _ (xI (n+1)) WZ.blk;refine(Qcb _ _ q (by simpa [World.setCell]using hqw)).trans ?_;simpa [Ue]using h1);have fL:=af (show di W1 w (xK #[xI k,xI en,xS s,xL a l.length cap] 319)by
   rw[bT];have h1:=Qbh (w.setCell ⟨q,1,none⟩ (xI (n+1))) (xK #[xI k,xI en,xS s,xL a l.length cap] 319);rw[show(w.setCell ⟨q,1,none⟩ (xI (n+1))).heap.size=w.heap.size by simp[World.setCell]]at h1;exact h1);have qH:Hd (ab M W1 (xL a l.length cap) l):=bI.ev (J4 WZ.mq rE.o);have TG:=af (Pg M W1 q b (n+1) k en s l _ qH.o hsz yN ot.o.blk ot.o.binds (hT.below ot.o.low));obtain⟨p0,p1⟩:=ah ot.o.blk;obtain⟨x0,x1,x2,x3⟩:=ae fL.o;have HIH:Hd (∀e,ek e<=N->∀(M:aN)(w:aj)(v:an)(b:Nat)(n depth:Int),ct M w v e->iw e=true->sA w0 w M q b n->1<=depth->depth+kM e<=9->0<=n->n+ek e<=40->_):=λe he M w v b n depth=>ih e he w0 hT M w v q b n depth;have gp:=af bI;have HMQ:Hd (M q):=WZ.mq;have e0:(ek (.mk k en s l):Int)=dp l+1:=by simp[ek]
  rw[e0];have zL:=af KD;go_enter func315,ntmps315;go_wp2_with fail;rw[<-bT];refine bY (TG.o) λw2 bC=> ?_;have zO:=af (ot.o.below bC);have Tk:Hd (ai (λi=>i=q) w w2):=rE.o.trans (ai.ao bC);obtain⟨y0,y1,y2,y3⟩:=ae ((bC.block w.heap.size (Qaa.1 fL.o).1).trans fL.o);go_wp2;go_loopg [8,34]l.length(λg _ iv wr=>∃i:Nat,i<=l.length/\g=l.length-i/\iv=xI i/\Hd (sA w0 wr M q b (n+1+dp (l.take i)))/\Hd (ai (λi=>i=q) w wr));case atStart=>exact⟨0,Qbf _,rfl,rfl,(show sA _ _ _ _ _ _ by simpa [dp]using zO.o),Tk⟩
  case round=>
   obtain⟨i,hi,rfl,rfl,HK,HO⟩:=hrel;by_cases bu:i<l.length
   .obtain⟨⟨xk,xn,xs,xl⟩,hx⟩:=eB l i bu;obtain⟨bl,off,ig,a',c',hv,cR,wh,mX,hxz,q0,q1,q2,q3⟩:=xU (gp.o.ev (J4 HMQ.o HO.o)) hx;obtain⟨rfl,rfl⟩:=iB hv;obtain⟨g1,g2,g3⟩:=tU hx;have g4:=oJ hx;have g5:=pP l (i+1);have br:=af (λo=>HIH.o (.mk xk xn xs xl) (by omega) M (wr.alloc o) (.agg #[xI xk,xI xn,xS xs,xL a' xl.length c']) b (n+1+dp (l.take i)) (depth+1) (xV (mX.below (dQ.alloc bN o)) hxz) (g3 zL.o) (HK.o.below (dQ.alloc bN o)) (by omega) (by omega) (by omega) (by omega));have qd5:=af (show n+1+(dp (l.take i):Int)+(ek (.mk xk xn xs xl):Int)=n+1+(dp (l.take (i+1)):Int)by rw[g4];omega);go_wp2_with fail;refine(br.o _).mono ?_;rintro e w3⟨rfl,bP,KN⟩;have vM:=af (show sA w0 w3 M q b (n+1+dp (l.take (i+1)))by rw[<-qd5.o];exact(HK.o.below bM).SC KN bP);have uJ:Hd (ai (λi=>i=q) w w3):=(HO.o.alloc _).trans KN;go_wp2;go_roundg(l.length-(i+1));case measure=>omega
    case rel=>exact⟨i+1,by omega,rfl,by go_num,vM,uJ⟩
   .go_wp2;go_ret;refine⟨rfl,?_,HO.o⟩;have h1:=HK.o.blk;rw[Qah (by omega)]at h1;rw[show n+((dp l:Int)+1)=n+1+dp l from by omega];exact h1
def AD(e:aw)(hn:iw e=true)(hd:kM e<=8)(hs:ek e<=40)(M:aN)(w:aj)(v:an)(hM:Bd M w)(gq:ct M w v e)(hT:Tb w):
 xC 273 #[v] w λe' w'=>e'=xR (xB true)/\aq w w':=by
 obtain⟨k,en,s,l⟩:=e;obtain⟨a,cap,rfl,bI⟩:=eC gq;have HR:Hd (∀(w1:aj)(b q:Nat),aq w w1->eP w1 b->bR w1 q (Ue b 0)->w.heap.size<=q->b≠q->xC 315 #[xP q, .agg #[xI k,xI en,xS s,xL a l.length cap],xI 1] w1 λe' w'=>e'=xR (xB true)/\w'.heap[q]? =some (Ue b (0+ek (.mk k en s l)))/\ai (λi=>i=q) w1 w'):=λw1 b q hb hB hq hqw hne=>
  Hr _ (.mk k en s l) bN w hT (orM M q) w1 _ q b 0 1 (gq.ev ⟨ai.ao hb,λi hi=>hi.imp_right λe=>by omega⟩) hn ⟨hq,hB,hb,hqw,hne, .inr rfl⟩ (by omega) (by omega) (by omega) (by omega);go_enter func273,ntmps273;go_wp2_with fail;refine(uX _).mono ?_;rintro e w1⟨b,rfl,hB,RR,aF⟩;obtain⟨g0,g1,g2,g3⟩:=ae (boxed aF);have HX:=af (boxed aF);have s1:=aF.size;simp only[World.size_alloc]at s1 RR;have aY:=af (aU aF);have KJ:=af hB;have cR:b<w1.heap.size:=(Qaa.1 hB).1;have hne:b≠w1.heap.size:=by omega
 have hwn:w.heap.size≠w1.heap.size:=by omega
 have g0':=λo=>cu w1 o _ g0;have g1':=λo=>cu w1 o _ g1;have g2':=λo=>cu w1 o _ g2;have g3':=λo=>cu w1 o _ g3;go_wp2_with fail;refine(HR.o (w1.alloc (xK #[.map (some b),xI 0] 385)) b w1.heap.size (by exact aY.o.alloc aY.o.size _) (by exact KJ.o.below bM) (by exact Qbh w1 (Ue b 0)) aY.o.size hne).mono ?_;rintro e w2⟨rfl,_,ho⟩;have HO:=af ho;go_wp2;go_ret;exact⟨rfl,xT (aY.o.alloc aY.o.size _) HO.o aY.o.size⟩
def Zu {l:List an}{o:Nat}{a b:an}(h:o+2<=l.length):((l.set o a).set (o+1) b).take (o+2)=l.take o++[a,b]:=by
 apply List.ext_getElem?;intro i;rw[List.getElem?_take,List.getElem?_append];have hl:(l.take o).length=o:=by simp;omega
 rw[hl];by_cases h1:i<o
 .rw[if_pos (by omega),if_pos h1];rw[List.getElem?_set_ne (by omega),List.getElem?_set_ne (by omega),List.getElem?_take,if_pos h1]
 .rw[if_neg h1];by_cases h2:i<o+2
  .rw[if_pos h2];have:i=o\/i=o+1:=by omega
   rcases this with rfl|rfl
   .rw[List.getElem?_set_ne (by omega),List.getElem?_set_self (by omega)];simp
   .rw[List.getElem?_set_self (by simp;omega)];simp
  .rw[if_neg h2];rw[List.getElem?_eq_none (by simp;omega)]
theorem dL.Ps {α:Type} [au α](h4:au.size α=2){n:Nat}{xs:List α}(h:dL M B t w n xs)(hk:xs.length=k)(hn:k<n){x:α}{a b:an}(hx:au.rep (orM M B) w [a,b] x):
 dL M B t ((w.setCell ⟨B,k*2,none⟩ a).setCell ⟨B,k*2+1,none⟩ b) n (xs++[x]):=by
 obtain⟨cur,css,h1,h2,h3,h5,h6,h7⟩:=h;subst hk;rw[h4]at h2 h6;have E:Ev (orM M B) w (orM M B) ((w.setCell ⟨B,xs.length*2,none⟩ a).setCell ⟨B,xs.length*2+1,none⟩ b):=
  ((Ev.refl _ w).setCell (.inl (.inr rfl)) a).setCell (.inl (.inr rfl)) b;have hh:=Qca _ B (xs.length*2+1) _ _ b (Qca _ B (xs.length*2) _ _ a h1);refine⟨_,css++[[a,b]],hh,by rw[h4];simp[h2],by simp;omega,by simp[h5],?_,λi cs y hc hy=> ?_⟩
 .rw[h4];simp only[List.flatten_append,List.flatten_cons,List.flatten_nil,List.append_nil,Qda,Qcc,Qcd,h6,Array.toList_setIfInBounds];rw[show(xs.length+(0+1))*2=xs.length*2+2 from by omega];rw[Zu (by simp[h2];omega)]
 .by_cases hi:i<css.length
  .rw[Qbc hi]at hc;rw[Qbc (by omega)]at hy;exact au.ev (h7 i cs y hc hy) E
  .rw[Qbd (by omega)]at hc;rw[Qbd (by omega)]at hy;rw[h5]at hc;have h0:i-xs.length=0:=by
    cases hq:i-xs.length with
    |zero=>rfl
    |succ q=>rw[hq]at hc;simp at hc
   rw[h0]at hc hy;simp at hc hy;subst hc hy;exact au.ev hx E
def Mb:(Tryz.prog.info? 49).map (λi=>(i.zero,i.size,i.bytes))=some (some (.agg #[xI 0,xI 0]),2,16):=by kernel_rfl
structure sE(N:aN)(c:ax)(vs:List aA)(b bm:Nat)(w:aj):Prop where
 box:∃fa fc vv,w.heap[b]? =some (xK #[xS c.name,xL fa c.fields.length fc,vv, .map (some bm)] 405)/\ab N w (xL fa c.fields.length fc) c.fields/\ab N w vv vs
 calls:fH w bm
theorem sE.below(h:sE N c vs b bm w)(k:aq w w'):sE N c vs b bm w':=by
 obtain⟨⟨fa,fc,vv,h1,h2,h3⟩,h4⟩:=h;exact⟨⟨fa,fc,vv,(k.block b (Qaa.1 h1).1).trans h1,h2.below k,h3.below k⟩,h4.below k⟩
def sF(c:ax)(e:aw)(t:aT):Prop:=∀(M N:aN)(w:aj)(v:an)(b bm:Nat)(vs:List aA),ct M w v e->sE N c vs b bm w->
 xC 327 #[xP b,v] w λε w'=>ε=xR (.tuple #[.agg #[xI t.kind,xI t.of],xB true])/\aq w w'
def jU:List (aM×Int×List Int):=[(⟨#[108,101,110]⟩,1,[2]),(⟨#[108,101,102,116]⟩,2,[2,1]),(⟨#[102,114,111,109]⟩,2,[2,1]),(⟨#[102,105,110,100]⟩,1,[2,2]),(⟨#[116,101,120,116]⟩,2,[1])]
def H9(h:fH w bm){k:Int}{ks:List Int}(hm:(s,k,ks)∈jU):∃v f,iq (λi=>i<=bm) w v k ks/\∀W,W.heap[bm]? =w.heap[bm]?->(Instr.lookup 402 (.map (some bm)) (xS s) false).run prog W= .ok (gI v f) W:=by
 obtain⟨es,clk,h0,⟨v1,a1,t1⟩,⟨v2,a2,t2⟩,⟨v3,a3,t3⟩,⟨v4,a4,t4⟩,⟨v5,a5,t5⟩,h6⟩:=h;simp only[jU,Qdf,List.not_mem_nil,or_false,Prod.mk.injEq]at hm;rcases hm with⟨rfl,rfl,rfl⟩|⟨rfl,rfl,rfl⟩|⟨rfl,rfl,rfl⟩|⟨rfl,rfl,rfl⟩|⟨rfl,rfl,rfl⟩
 .exact⟨v1,_,t1,λW hW=>fm (hW.trans h0) _ _ a1⟩
 .exact⟨v2,_,t2,λW hW=>fm (hW.trans h0) _ _ a2⟩
 .exact⟨v3,_,t3,λW hW=>fm (hW.trans h0) _ _ a3⟩
 .exact⟨v4,_,t4,λW hW=>fm (hW.trans h0) _ _ a4⟩
 .exact⟨v5,_,t5,λW hW=>fm (hW.trans h0) _ _ a5⟩
def J9(h:fH w bm):∀W,W.heap[bm]? =w.heap[bm]?->(Instr.lookup 402 (.map (some bm)) (xS ⟨#[105,102]⟩) false).run prog W= .ok (gI (.func (.func 366) #[] #[]) 367) W:=by
 obtain⟨es,clk,h0,_,_,_,_,_,h6⟩:=h;exactλW hW=>fm (hW.trans h0) _ _ h6
inductive sG(c:ax):Int->aM->List aT->aT->Prop
 |num(s:aM):sG c 1 s [] ⟨1,0⟩
 |txt(s:aM):sG c 2 s [] ⟨2,0⟩
 |fld(f:az)(i:Nat):fieldAt c f.name=i->c.fields[i]? =some f->sG c 3 f.name [] f.type
 |ari(s:aM):s=⟨#[42]⟩\/s=⟨#[45]⟩\/s=⟨#[47]⟩->sG c 4 s [⟨1,0⟩,⟨1,0⟩] ⟨1,0⟩
 |cat:sG c 4 ⟨#[38]⟩ [⟨2,0⟩,⟨2,0⟩] ⟨2,0⟩
 |cmp(s:aM):s=⟨#[61]⟩\/s=⟨#[62]⟩->sG c 4 s [⟨1,0⟩,⟨1,0⟩] ⟨1,0⟩
 |call(s:aM)(k:Int)(ts:List aT):(s,k,ts.map (·.kind))∈jU->sG c 6 s ts ⟨k,0⟩
 |ite(p:Int):p=1\/p=2->sG c 6 ⟨#[105,102]⟩ [⟨1,0⟩,⟨p,0⟩,⟨p,0⟩] ⟨p,0⟩
def Eg(k n:Int)(s:aM)(v:an):Obj:=xK #[xI k,xI n,xS s,v] 319
def Ka {l:List aw}(h:ab M w v l){k n:Int}{ll:List aw}(hx:l[i]? =some (.mk k n s ll)):∃b off cap a c,v=xL (some ⟨b,off,none⟩) l.length cap/\b<w.heap.size/\∀W,aq w W->(bt W b (off+i*4) (xI k)/\bt W b (off+i*4+1) (xI n)/\bt W b (off+i*4+2) (xS s)/\bt W b (off+i*4+3) (xL a ll.length c))/\ct M W (.agg #[xI k,xI n,xS s,xL a ll.length c]) (aw.mk k n s ll):=by
 obtain⟨b,off,cap,a,c,h1,h2,_,h4,h5,h6,h7,h8,h9⟩:=xU h hx;exact⟨b,off,cap,a,c,h1,h2,λW hB=>⟨⟨(hB.cell (p:=⟨b,off+i*4,none⟩) h2).trans h6,(hB.cell (p:=⟨b,off+i*4+1,none⟩) h2).trans h7,(hB.cell (p:=⟨b,off+i*4+2,none⟩) h2).trans h8,(hB.cell (p:=⟨b,off+i*4+3,none⟩) h2).trans h9⟩,xV (h4.below hB) h5⟩⟩
def dM(c:ax)(fV:c.name.size<=maxLen)(k n:Int)(s:aM)(l:List aw)(ts:List aT)(t:aT)(RO:ts.length<=3)(Q5:l.length=ts.length)(Q6:∀(i:Nat)(x:aw)(u:aT),l[i]? =some x->ts[i]? =some u->sF c x u)(FD:sG c k s ts t):sF c (.mk k n s l) t:=by
 intro M N w v b bm vs gq Fx;obtain⟨cs,rfl,bV⟩:=gq;obtain⟨lv,rfl,bI,ke⟩:=cH.iff.1 bV;obtain⟨i0,ed,ej,dO,er⟩:=info_parts Mb;have CZ:Hd (∀W,aq w W->sE N c vs b bm W):=λW hb=>Fx.below hb;have HK:Hd (∀(i:Nat)(k n:Int)(s:aM)(ll:List aw),l[i]? =some (aw.mk k n s ll)->_):=λi k n s ll hx=>Ka bI hx;have br:Hd (∀(i:Nat)(x:aw)(u:aT)(W:aj)(v:an),l[i]? =some x->ts[i]? =some u->aq w W->ct M W v x->_):=λi x u W v h1 h2 h3 h4=>Q6 i x u h1 h2 M N W v b bm vs h4 (Fx.below h3);have RR:b<w.heap.size:=by
  obtain⟨⟨fa,fc,vv,h1,_⟩,_⟩:=Fx;exact(Qaa.1 h1).1
 have TJ:bm<w.heap.size:=by
  obtain⟨_,es,clk,h0,_⟩:=Fx;exact(Qaa.1 h0).1
 have TG:=af FD;obtain⟨la,lc,rfl,Jq,hlm,_⟩:=bI.open_;have Wi:Hd (ts.length=ts.length):=rfl;generalize yU:ts.length=m at*;have eF:=af Q5;rw[Q5]at Jq HK⊢;obtain⟨cur,wj,bJ⟩:=mC (P:=prog) ((w.alloc (Eg k n s (.slice la m lc))).alloc (FT 0 0)) 429 49 i0 _ underlying429 ed ej m (by omega) (by omega);have zg:=af yU;clear Fx bV bI Q6 FD Q5 yU Wi;have jN:Hd (Bx w [Eg k n s (xL la m lc),FT 0 0] (((w.alloc (Eg k n s (xL la m lc))).alloc (FT 0 0)).alloc (.cells cur 49))):=(Bx.dq w _ _).alloc _;have Ju:Hd (dL (α:=aT) xF (w.heap.size+1+1) 49 (((w.alloc (Eg k n s (xL la m lc))).alloc (FT 0 0)).alloc (.cells cur 49)) m []):=dL.made cur ((Bx.gO w _ _ _).fR rfl) (by rw[bJ,dO];rfl);clear bJ;rw[show((w.alloc (Eg k n s (xL la m lc))).alloc (FT 0 0)).heap.size=w.heap.size+1+1 from by simp]at wj;unfold Eg FT at wj jN Ju;go_enter func327,ntmps327;go_wp2;go_loopg [7,8,9,10,20]m(λg _ _ _ _ iv wr=>∃i:Nat,i<=m/\g=m-i/\iv=xI i/\Hd (Bx w [Eg k n s (xL la m lc),FT 0 0] wr)/\Hd (dL (α:=aT) xF (w.heap.size+1+1) 49 wr m (ts.take i)));case atStart=>exact⟨0,Qbf _,rfl,rfl,jN,Ju⟩
 case round=>
  obtain⟨i,hi,rfl,rfl,HB,HA⟩:=hrel;have hsz:=HB.o.bF;simp only[Qcc,Qcd]at hsz;have Xi:w.heap.size+1+1<wr.heap.size:=HA.o.lt;by_cases bu:i<m
  .obtain⟨⟨xk,xn,xs,xl⟩,hx⟩:=eB l i (by rw[eF.o];exact bu);obtain⟨⟨uk,uo⟩,hu⟩:=eB ts i (by rw[zg.o];exact bu);obtain⟨bk,off,cap,xa,xc,hv,yT,ay⟩:=HK.o i _ _ _ _ hx;obtain⟨rfl,rfl⟩:=iB hv;obtain⟨⟨q0,q1,q2,q3⟩,_⟩:=ay wr HB.o.1;have mP:=af (λo=>br.o i _ _ (wr.alloc o) _ hx hu (HB.o.1.alloc HB.o.1.size o) (ay (wr.alloc o) (HB.o.1.alloc HB.o.1.size o)).2);have nG:=af (show ts.take (i+1)=ts.take i++[⟨uk,uo⟩]by rw[Qbb,hu];rfl);have uC:=af (show(ts.take i).length=i by have:=zg.o;rw[Qdb];omega);clear hv ay hx hu;go_wp2_with fail;refine bY (mP.o _) λw1 aF=> ?_;have aY:=af (HB.o.below (aU aF));have lK:=af (HA.o.below (aU aF));have qef:=lK.o.lt;clear aF;have Yt:i*2+1<m*2:=by omega
   obtain⟨u0,p0,f0⟩:=lK.o.cell (j:=i*2) (by show _<m*2;omega);obtain⟨u1,p1,f1⟩:=lK.o.cell (j:=i*2+1) (by show _<m*2;omega);go_wp2;go_roundg(m-(i+1));case measure=>omega
   case rel=>
    refine⟨i+1,by omega,rfl,by go_num,?_,?_⟩
    .exact((aY.o.du (B:=w.heap.size+2) ((dQ.setCell (by simp) _).setCell (by simp) _) (by simp)).alloc _)
    .exact(show dL _ _ _ _ _ _ by rw[nG.o];exact(lK.o.Ps rfl uC.o bu rfl).below bM)
  .have tF:=af (show ab xF wr (xL (some ⟨w.heap.size+1+1,0,none⟩) m m) ts by
    have h1:=HA.o;rw[Qah (by rw[zg.o];omega)]at h1;exact h1.slice zg.o (λh=>h) (by unfold maxLen;omega));obtain⟨e0,e1,e2,e3⟩:=ae (HB.o.bG rfl);obtain⟨c0,c1⟩:=ah (HB.o.bU rfl);obtain⟨f0,f1⟩:=mV (HB.o.bU rfl);clear HA;cases TG.o with
   |num s=>
    go_wp2_with fail;refine Qae (v:= .tuple #[.agg #[xI 1,xI 0],xB true]) (by simp[results,results327,go_sem,c0,c1]) rfl ⟨rfl,?_⟩;exact(HB.o.1.setCell (by simp) _).setCell (by simp) _
   |txt s=>
    go_wp2_with fail;refine Qae (v:= .tuple #[.agg #[xI 2,xI 0],xB true]) (by simp[results,results327,go_sem,c0,c1]) rfl ⟨rfl,?_⟩;exact(HB.o.1.setCell (by simp) _).setCell (by simp) _
   |fld f i RU Nt=>
    have HSW:=CZ.o w dQ;obtain⟨⟨fa,fc,vv,tt,cq,_⟩,_⟩:=HSW;have bW:Hd (∀W,aq w W->bR W b (xK #[xS c.name,xL fa c.fields.length fc,vv, .map (some bm)] 405)):=λW hb=>(hb.block b RR).trans tt;have Nj:Hd (∀W,aq w W->xC 107 #[.agg #[xS c.name,xL fa c.fields.length fc],xS f.name] W (cr (.tuple #[xI (i:Int),xB true]) W)):=λW hb=>mh N _ W c f.name i true (cq.below hb) fV (by rw[RU];rw[if_neg (by omega)]) (by rw[RU];simp);have Tv:=af (nB cq Nt);obtain⟨bf,of,cf,Nk,F2,_,_⟩:=Tv.o;obtain⟨rfl,rfl⟩:=iB Nk;have HFD:Hd (∀W,aq w W->bt W bf (of+i*4+1) (xI f.type.kind)/\bt W bf (of+i*4+2) (xI f.type.of)):=λW hb=>by
     obtain⟨b2,o2,c2,h1,_,_,h4⟩:=Tv.o;obtain⟨⟨rfl,rfl⟩,rfl⟩:(bf=b2/\of=o2)/\fc=c2:=by simpa using h1
     exact⟨(h4 W hb).2.1,(h4 W hb).2.2.1⟩
    have ze:=(Qad.1 Nt).1;obtain⟨b0,b1,b2,b3⟩:=ae (bW.o wr HB.o.1);clear tt cq Nk Tv RU Nt;go_upto_region 14 with fail;go_region_law(first
     |(go_simp;go_at_call 107;refine bY (Nj.o _ HB.o.1.drew) λw2 bC=> ?_;have aQ:=af (HB.o.drew.below bC);clear bC));all_goals
     obtain⟨b0,b1,b2,b3⟩:=ae (bW.o w2 aQ.o.1);obtain⟨q1,q2⟩:=HFD.o w2 aQ.o.1;obtain⟨c0,c1⟩:=ah (aQ.o.bU rfl);obtain⟨f0,f1⟩:=mV (aQ.o.bU rfl);go_wp2_with fail;refine Qae (v:= .tuple #[.agg #[xI f.type.kind,xI f.type.of],xB true]) (by simp[results,results327,go_sem,c0,c1]) rfl ⟨rfl,?_⟩;exact(aQ.o.1.setCell (by simp) _).setCell (by simp) _
   |ari s hs=>
    go_wp2_with fail;refine(Hz s hs _).mono ?_;rintro e w2⟨_,rfl,⟨p,q,kv,rfl,_,_,h4,h5,h6⟩,bC⟩;have aQ:=af (HB.o.below bC);have Ni:=af (um [⟨1,0⟩,⟨1,0⟩] 1 xF xF w2 _ undef (by simp) (tF.o.below bC) p q kv h4 h5 h6);clear h4 h5 h6 bC;go_wp2_with fail;refine bY (Ni.o) λw3 bP=> ?_;have bO:=af (aQ.o.below bP);obtain⟨c0,c1⟩:=ah (bO.o.bU rfl);obtain⟨f0,f1⟩:=mV (bO.o.bU rfl);clear bP;go_wp2_with fail;refine Qae (v:= .tuple #[.agg #[xI 1,xI 0],xB true]) (by simp[results,results327,go_sem,c0,c1]) rfl ⟨rfl,?_⟩;exact(bO.o.1.setCell (by simp) _).setCell (by simp) _
   |cat=>
    go_wp2_with fail;refine(H7 _).mono ?_;rintro e w2⟨_,rfl,⟨p,q,kv,rfl,_,_,h4,h5,h6⟩,bC⟩;have aQ:=af (HB.o.below bC);have Ni:=af (um [⟨2,0⟩,⟨2,0⟩] 2 xF xF w2 _ undef (by simp) (tF.o.below bC) p q kv h4 h5 h6);clear h4 h5 h6 bC;go_wp2_with fail;refine bY (Ni.o) λw3 bP=> ?_;have bO:=af (aQ.o.below bP);obtain⟨c0,c1⟩:=ah (bO.o.bU rfl);obtain⟨f0,f1⟩:=mV (bO.o.bU rfl);clear bP;go_wp2_with fail;refine Qae (v:= .tuple #[.agg #[xI 2,xI 0],xB true]) (by simp[results,results327,go_sem,c0,c1]) rfl ⟨rfl,?_⟩;exact(bO.o.1.setCell (by simp) _).setCell (by simp) _
   |cmp s hs=>
    go_wp2_with fail;refine cT (H8 s hs _) ?_;have Ni:=af (Pr ⟨1,0⟩ (.inl rfl) _ wr _ tF.o);go_wp2_with fail;refine bY (Ni.o) λw3 bP=> ?_;have bO:=af (HB.o.below bP);obtain⟨c0,c1⟩:=ah (bO.o.bU rfl);obtain⟨f0,f1⟩:=mV (bO.o.bU rfl);clear bP;go_wp2_with fail;refine Qae (v:= .tuple #[.agg #[xI 1,xI 0],xB true]) (by simp[results,results327,go_sem,c0,c1]) rfl ⟨rfl,?_⟩;exact(bO.o.1.setCell (by simp) _).setCell (by simp) _
   |call s k ts hm=>
    obtain⟨⟨fa,fc,vv,tt,_,_⟩,l9⟩:=CZ.o wr HB.o.1;obtain⟨b0,b1,b2,b3⟩:=ae tt;obtain⟨v,f,⟨p,q,kv,rfl,_,_,h4,h5,h6⟩,qq⟩:=H9 l9 hm;have Q7:=qq wr.drew rfl;have Ni:=af (um ts k xF (λi=>i<=bm) wr.drew _ undef (by have:=zg.o;omega) (tF.o.below (w':=wr.drew) ⟨rfl,rfl,rfl,bN,λ_ _=>rfl⟩) p q kv h4 h5 (h6.ev ((Ev.refl _ _).drew)));clear h4 h5 h6 qq tt l9 hm;unfold gI at Q7;have F6:∀(v u:an)(w:aj),(Instr.field 425 (.agg #[v,u]) 0).run prog w= .ok v w:=λ_ _ _=>by kernel_rfl
    go_upto_region 23 with fail;go_region_law(first
     |(go_simp;go_at_call 391;refine bY (Ni.o) λw3 bP=> ?_;have bO:=af (HB.o.drew.below bP);clear bP;have c0:=(ah (bO.o.bU rfl)).1;have c1:=(ah (bO.o.bU rfl)).2;have f0:=ag (bO.o.bU rfl) 0;have f1:=ag (bO.o.bU rfl) 1));all_goals
     go_wp2_with fail;refine Qae (v:= .tuple #[.agg #[xI k,xI 0],xB true]) (by simp[results,results327,go_sem,c0,c1]) rfl ⟨rfl,?_⟩;exact(bO.o.1.setCell (by simp) _).setCell (by simp) _
   |ite p hp=>
    obtain⟨⟨fa,fc,vv,tt,_,_⟩,l9⟩:=CZ.o wr HB.o.1;obtain⟨b0,b1,b2,b3⟩:=ae tt;have Q7:=J9 l9 wr.drew rfl;have Ni:=af (Ma ⟨p,0⟩ hp xF wr.drew _ (tF.o.below (w':=wr.drew) ⟨rfl,rfl,rfl,bN,λ_ _=>rfl⟩));clear tt l9 hp;unfold gI at Q7;have F6:∀(v u:an)(w:aj),(Instr.field 425 (.agg #[v,u]) 0).run prog w= .ok v w:=λ_ _ _=>by kernel_rfl
    go_upto_region 23 with fail;go_region_law(first
     |(go_simp;go_at_call 366;refine bY (Ni.o) λw3 bP=> ?_;have bO:=af (HB.o.drew.below bP);clear bP;have c0:=(ah (bO.o.bU rfl)).1;have c1:=(ah (bO.o.bU rfl)).2;have f0:=ag (bO.o.bU rfl) 0;have f1:=ag (bO.o.bU rfl) 1));all_goals
     go_wp2_with fail;refine Qae (v:= .tuple #[.agg #[xI p,xI 0],xB true]) (by simp[results,results327,go_sem,c0,c1]) rfl ⟨rfl,?_⟩;exact(bO.o.1.setCell (by simp) _).setCell (by simp) _
end
end Go.Proofs.YtepaofffbkfodaaGreatDoor
