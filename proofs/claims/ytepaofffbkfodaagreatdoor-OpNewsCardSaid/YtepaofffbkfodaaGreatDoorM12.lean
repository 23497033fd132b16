/- A part; no condition. -/
import Derived.Test.YtepaofffbkfodaaGreatDoorM11
import Derived.LoopIn
import Derived.RegionIn
set_option linter.all false
set_option maxHeartbeats 8000000
set_option maxRecDepth 100000
namespace Go.Proofs.YtepaofffbkfodaaGreatDoor
open Tryz
variable{s:aY}{i p b cap k B bm:Nat}{w0 w A w':ax}{M N:aV}{v:aA}{a:fx}{t:TypeId}{vs:List aJ}{c:aI}
section
open Go.RowKit Go.Shelf
attribute [local go_sem]Oper.semAt_some
def lU(s:aY)(a:Nat)(ts:List Tok):Prop:=∃f,eQ f (s.data.toList.drop a) a=some ts
theorem lU.space {a:Nat}{ts:List Tok}(h:lU s a ts)(ha:a<s.size)(hc:(s[a]'ha).toNat=32):lU s (a+1) ts:=by
 obtain⟨f,hf⟩:=h;have hl:s.data.toList.drop a=s[a]'ha::s.data.toList.drop (a+1):=by
  rw[List.drop_eq_getElem_cons (by rw[bG];exact ha)];rfl
 rw[hl]at hf;cases f with
 |zero=>simp[eQ]at hf
 |succ f=>
  unfold eQ at hf;rw[if_pos (by rw[<-UInt8.toNat_inj];simpa using hc)]at hf;exact⟨f,hf⟩
theorem lU.end_ {ts:List Tok}(h:lU s s.size ts):ts=[]:=by
 obtain⟨f,hf⟩:=h;rw[List.drop_of_length_le (by rw[bG];exact bT)]at hf;cases f<;>simp[eQ]at hf<;>exact hf
theorem lU.next {a:Nat}{ts:List Tok}(h:lU s a ts)(ha:a<s.size)(hc:(s[a]'ha).toNat≠32):∃kd n str size ts',ts=⟨kd,n,str,a⟩::ts'/\ru (s.data.toList.drop a)=some ((kd,n,str),size)/\lU s (a+size) ts':=by
 obtain⟨f,hf⟩:=h;have hl:s.data.toList.drop a=s[a]'ha::s.data.toList.drop (a+1):=by
  rw[List.drop_eq_getElem_cons (by rw[bG];exact ha)];rfl
 rw[hl]at hf;cases f with
 |zero=>simp[eQ]at hf
 |succ f=>
  unfold eQ at hf;rw[if_neg (by intro e;apply hc;rw[e];rfl),<-hl]at hf;split at hf
  .cases hf
  .rename_i kd n str size hx;split at hf
   .cases hf
   .rw[Option.map_eq_some_iff]at hf;obtain⟨ts',h1,h2⟩:=hf;refine⟨kd,n,str,size,ts',h2.symm,hx,f,?_⟩;rw[List.drop_drop]at h1;exact h1
def On {T rest:List Tok}(h:T=T.take i++rest)(hi:i<=T.length)(hr:rest=[]):i=T.length:=by
 subst hr;have:=congrArg List.length h;simp at this;omega
def Lb {T rest ts':List Tok}{t:Tok}(h:T=T.take i++rest)(hi:i<=T.length)(hr:rest=t::ts'):T[i]? =some t/\T=T.take (i+1)++ts'/\i+1<=T.length:=by
 subst hr;have hl:(T.take i).length=i:=by rw[Qdb];omega
 have h1:T[i]? =some t:=by
  rw[h,Qbd (by omega),hl];simp
 refine⟨h1,?_,(Qad.1 h1).1⟩;rw[Qbb,h1,List.append_assoc];exact h
def GO(T:List Tok)(i:Nat)(args:Array aA)(j:Nat)(_:ax):Prop:=∃t,T[i]? =some t/\args= #[kB t.an t.n (bL t.s) t.at_]/\j=i+1/\t.an≠0
structure DI(s:aY)(p:Nat)(w0 w A:ax):Prop where
 ae:aC w0 A
 cell:A.cell? (p,0)=some (xS s)
 size:w.heap.size+2<=A
theorem DI.round {B:ax}{C:aV}(h:DI s p w0 w A)(ho:ao (rdS C w 0) A B)(hC:∀i,C i->w0.heap.size<=i)(hw:w0.heap.size<=w)(hp:p<w)(hCp:¬C p):DI s p w0 w B:=
 ⟨xp h.ae ho hC hw,(ho.cell (p:=⟨p,0,none⟩) (by have:=h.size;show p<_;omega) (by rintro((h|h)|h);exact hCp h;(have:_<=p:=h;omega);(have:p=_:=h;omega))).trans h.cell,Qcg h.size ho.size⟩
theorem DI.own {B:ax}(h:DI s p w0 w A)(hb:aC A B)(hw:w0.heap.size<=w)(hp:p<w):DI s p w0 w B:=
 ⟨h.ae.trans (hb.mono (by have:=h.size;omega)),(hb.cell (p:=⟨p,0,none⟩) (by have:=h.size;show p<_;omega)).trans h.cell,Qcg h.size hb.size⟩
def An(s:aY)(a:Nat)(ha:a<=s.size):(s.extract a s.size).data.toList=s.data.toList.drop a/\(s.extract a s.size).size=s.size-a:=by
 have h1:(s.extract a s.size).data.toList=s.data.toList.drop a:=by
  rw[Lib.extract_data,Qah];rw[List.length_drop,bG];exact bT
 exact⟨h1,by rw[<-bG,h1,List.length_drop,bG]⟩
def GP(s:aY)(hs:s.size<=200)(T:List Tok)(hT:lU s 0 T)(p:Nat)(w0 w:ax)(hw:aC w0 w)(hT0:Tb w0)(hp:bJ w p 0 s)(iy:p<w)(C:aV)(hCp:¬C p)(hC:∀i,C i->w0.heap.size<=i):
 GA prog 310 #[xP p] w C 0 0 (GO T) (λi=>i=T.length):=by
 intro J Jx W hz hb hJ TT hY h0;have HJ:=ag hJ;have HJX:=ag TT;have HY:=ag hY;have Cv:=hw.size;have HP0:Hd (DI s p w0 w W):=⟨hw.trans (hb.mono Cv),(hb.cell (p:=⟨p,0,none⟩) iy).trans hp,by omega⟩;have MH:Hd (∀a A kd n str size,a<=s.size->ru (s.data.toList.drop a)=some ((kd,n,str),size)->aC w0 A->(xC 311 #[xS (s.extract a s.size)] A (cu (.tuple #[kB kd n (bL str) 0,xI (size:Int)]) A))/\0<size/\size<=s.size-a/\1<=kd):=λa A kd n str size ha hx hb=>by
  have⟨e1,e2⟩:=An s a ha;rw[<-e1]at hx;have h:=Om (s.extract a s.size) (by omega) kd n str size hx A (hT0.ae hb);rw[e2]at h;exact h
 have VK:=ag hT;have SL:=ag h0;clear hJ TT hY hT h0 hT0 hp hz hb;refine callsIn_of_wp func310 rfl trivial ?_ rfl;simp only[ntmps310,List.size_toArray,Qcc,Qcd,Nat.reduceAdd,Nat.reduceSub,Array.replicate_succ,Array.replicate_zero,List.push_toArray,List.append_toArray,List.nil_append,List.cons_append];gi_wp2_with fail;gi_loopw [3,4,5](λk _ _ wr=>∃(a i:Nat)(rest:List Tok),k=xI a/\a<=s.size/\Hd (lU s a rest)/\Hd (T=T.take i++rest/\i<=T.length)/\Hd (J i wr)/\Hd (DI s p w0 w wr))(λk _ _ _=>s.size-(intOf k).toNat);case atStart=>
  exact⟨0,0,T,rfl,Qbf _,VK,(show _/\_ from⟨by simp,Qbf _⟩),SL,HP0⟩
 case round=>
  obtain⟨a,i,rest,rfl,ha,HL,HI,Nh,HP⟩:=hrel;have c0:=HP.o.cell;gi_wp2_with fail;gi_loop [3](λk=>∃b:Nat,k=xI b/\a<=b/\b<=s.size/\Hd (lU s b rest))(λk=>s.size-(intOf k).toNat);case atStart=>exact⟨a,rfl,bT,ha,HL⟩
  case round=>
   obtain⟨b,rfl,hab,ZT,HLB⟩:=hrel;by_cases bH:b<s.size
   .have⟨d,hd⟩:=jN (((s[b]'bH).toNat:Int));have q1:∀h,((s[b]'h).toNat:Int)=d:=λ_=>hd;by_cases QZ:d=32
    .have e32:(d==32)=true:=by simpa using QZ
     have qY:Hd (lU s (b+1) rest):=HLB.o.space bH (by omega);clear hd QZ;gi_wp2_with fail;go_round;case rel=>exact⟨b+1,by go_num,by omega,by omega,qY⟩
     case measure=>simp[intOf];omega
    .have e32:(d==32)=false:=by simpa using QZ
     have⟨kd,n,str,size,ts',hts,hx,hl2⟩:=HLB.o.next bH (by omega);have⟨hcall,hs0,hs1,hkd⟩:=MH.o b wr kd n str size ZT hx HP.o.ae;have bI:=ag hcall;have qY:=ag hl2;have zG:=ag hts;have hbz:((b:Int)==(s.size:Int))=false:=by simp;omega
     clear hcall hl2 hts hx hd QZ;gi_wp2_with fail;refine⟨trivial,rfl,(callsIn_wide.2 bI.o).mono ?_⟩;rintro e w1⟨rfl,hb1⟩;have bz:Hd (aC wr (w1.alloc (xK #[kd,n,bL str,b] 359))):=hb1.alloc hb1.size _;clear hb1;have⟨ht1,ht2,ht3⟩:=Lb HI.o.1 HI.o.2 zG.o;have⟨fn,tmps,assign,body,hy,hR⟩:=HY.o i #[kB kd n (bL str) b] (i+1) _ (HJ.o i wr _ Nh.o (ao.az bz.o)) ⟨_,ht1,rfl,rfl,by show kd≠0;omega⟩;have HR:=ag hR;have mw:Hd (T=T.take (i+1)++ts'/\i+1<=T.length):=⟨ht2,ht3⟩;have MJ:=ag (HP.o.own bz.o Cv iy);clear hR ht1 ht2 ht3 c0 q1;unfold kB at hy⊢;gi_wp2_with fail;refine⟨rfl,HR.o.mono ?_⟩;rintro e W3(⟨rfl,Qs,vq⟩|⟨rfl,Cw⟩)
     .have TU:=ag Qs;have Xs:=ag (MJ.o.round vq hC Cv iy hCp);have qf6:((size:Int)==0)=false:=by simp;omega
      clear Qs vq hy;gi_wp2_with fail;go_roundw;case rel=>exact⟨b+size,i+1,ts',by go_num,by omega,qY,mw,TU,Xs⟩
      case measure=>simp[intOf];omega
     .have IX:=ag Cw;clear Cw hy;gi_wp2_with fail;refine Qae (results_none rfl _ _ _) rfl ?_;exact⟨⟨_,rfl⟩, .inr IX.o⟩
   .obtain rfl:b=s.size:=by omega
    have J1:rest=[]:=HLB.o.end_;have HE:Hd (i=T.length):=On HI.o.1 HI.o.2 J1;clear J1;gi_wp2_with fail;refine Qae (results_none rfl _ _ _) rfl ?_;exact⟨⟨_,rfl⟩, .inl (by first|exact⟨i,HE.o,Nh.o⟩|(rw[<-HE.o];exact Nh.o))⟩
end
section
open Go.RowKit
structure se(w0 w:ax)(M:aV)(q b:Nat)(n:Int):Prop where
 blk:w.heap[q]? =some (Tn b n)
 binds:eY w b
 low:aC w0 w
 hq:w0<=q
 ne:b≠q
 mq:M q
theorem se.lt {q:Nat}{n:Int}(h:se w0 w M q b n):q<w:=(Qaa.1 h.blk).1
def xE {q:Nat}(h:aC w0 w)(k:ao (λi=>i=q) w w')(hq:w0<=q):aC w0 w':=
 ⟨k.os.trans h.os,k.tape.trans h.tape,k.output.trans h.output,Qcg h.size k.size,λi hi=>(k.block i (Qde hi h.size) (λe=>by have:i=q:=e;omega)).trans (h.block i hi)⟩
theorem se.ae {q:Nat}{n:Int}(h:se w0 w M q b n)(k:aC w w'):se w0 w' M q b n:=
 ⟨(k.block q h.lt).trans h.blk,h.binds.ae k,h.low.trans (k.mono h.low.size),h.hq,h.ne,h.mq⟩
theorem se.Ll {q:Nat}{n m:Int}(h:se w0 w M q b n)(k:ao (λi=>i=q) w w')(hb:w'.heap[q]? =some (Tn b m)):se w0 w' M q b m:=
 ⟨hb,h.binds.only k h.ne,xE h.low k h.hq,h.hq,h.ne,h.mq⟩
def Jy {q:Nat}(hq:M q)(k:ao (λi=>i=q) w w'):Ev M w M w':=⟨k.mono λi hi=>by have:i=q:=hi;rw[this];exact hq,λ_ h=> .inl h⟩
theorem qC:∀l:List aG,l.length<=dB l
 |[]=>by simp
 |e::r=>by have:=qC r;have:=tB e;simp only[dB,Qcc];omega
def xH {l:List aG}(h:ab M w v l){k n:Int}{ll:List aG}(hx:l[i]? =some (.mk k n s ll)):∃b off cap a c,v=xL (b,off) l.length cap/\b<w.heap.size/\¬M b/\ab M w (xL a ll.length c) ll/\s.size<=maxLen/\bJ w b (off+i*4) k/\bJ w b (off+i*4+1) n/\bJ w b (off+i*4+2) s/\bJ w b (off+i*4+3) (xL a ll.length c):=by
 obtain⟨a,cap,rfl,hl,_,hc⟩:=h.aq;have hk:=(Qad.1 hx).1;obtain⟨b,off,rfl,hM,hb,hcell⟩:=hc (by omega);have⟨cs,hr,hcs⟩:=hcell i _ hx;obtain⟨av,rfl,hs,hsz⟩:=cO.iff.1 hr;have hs2:=hs;obtain⟨a,c,rfl,_⟩:=hs2.aq;exact⟨b,off,cap,a,c,rfl,hb,hM,hs,hsz,hcs 0 _ rfl,hcs 1 _ rfl,hcs 2 _ rfl,hcs 3 _ rfl⟩
def xJ {k n:Int}{l:List aG}(h:ab M w (xL a l.length cap) l)(hs:s.size<=maxLen):cB M w (.agg #[k,n,s,xL a l.length cap]) (aG.mk k n s l):=⟨_,rfl,cO.iff.2 ⟨_,rfl,h,hs⟩⟩
def GS:∀(N:Nat)(e:aG),eB e<=N->∀(w0:ax),Tb w0->∀(M:aV)(w:ax)(v:aA)(q b:Nat)(n depth:Int),cB M w v e->iG e=true->se w0 w M q b n->1<=depth->depth+kX e<=9->0<=n->n+eB e<=40->
 xC 315 #[xP q,v,depth] w λe' w'=>e'=xR true/\w'.heap[q]? =some (Tn b (n+eB e))/\ao (λi=>i=q) w w':=by
 intro N;induction N with
 |zero=>intro e he;have:=tB e;omega
 |succ N ih=>
  intro e he w0 hT M w v q b n depth hag MI V9 hd1 hd yI hn;obtain⟨k,en,s,l⟩:=e;obtain⟨a,cap,rfl,hsl⟩:=eH hag;have hss:s.size<=maxLen:=by obtain⟨cs,_,hr⟩:=hag;have⟨_,_,_,h⟩:=cO.iff.1 hr;exact h
  simp only[iG,Qce]at MI;obtain⟨hn1,hn2⟩:=MI;have hsz:s.size<=200:=by have:=wH hn1;rw[bG]at this;exact this
  simp only[eB]at he hn;simp only[kX]at hd;have Z9:l.length<=cap/\cap<=9223372036854775807:=by have⟨_,_,e,h1,h2,_⟩:=hsl.aq;cases e;exact⟨h1,h2⟩
  obtain⟨Qo,Qp⟩:=Z9;have qdf:l.length<=40:=by have:=qC l;omega
  have hqw:=V9.lt;have V8:q≠w:=by omega
  have⟨r0,r1⟩:=ak V9.blk;have f1:=aj V9.blk 1;have hd8:¬depth>8:=by omega
  have qf8:¬n+1>40:=by omega
  have⟨W1,hW1⟩:=bY ((w.setCell (q,1) (xI (n+1))).alloc (xK #[k,en,s,xL a l.length cap] 319));have q9:=ag (show ao (λi=>i=q) w W1 by rw[hW1];exact((ao.refl (λi=>i=q) w).setCell (p:=⟨q,1,none⟩) (.inl rfl) _).alloc _);have oy:Hd (se w0 W1 M q b (n+1)):=V9.Ll q9.o (by
   rw[hW1];have h1:=Qca w q 1 _ _ (xI (n+1)) V9.blk;refine(Qcb _ _ q (by simpa [World.setCell]using hqw)).trans ?_;simpa [Tn]using h1);have fp:=ag (show dk W1 w (xK #[k,en,s,xL a l.length cap] 319)by
   rw[hW1];have h1:=Qbh (w.setCell (q,1) (xI (n+1))) (xK #[k,en,s,xL a l.length cap] 319);rw[show(w.setCell (q,1) (xI (n+1))).heap.size=w by simp[World.setCell]]at h1;exact h1);have qL:Hd (ab M W1 (xL a l.length cap) l):=hsl.ev (Jy V9.mq q9.o);have SR:=ag (OF M W1 q b (n+1) k en s l _ qL.o hsz hn1 oy.o.blk oy.o.binds (hT.ae oy.o.low));have⟨p0,p1⟩:=ak oy.o.blk;have⟨x0,x1,x2,x3⟩:=af fp.o;have HIH:Hd (∀e,eB e<=N->∀(M:aV)(w:ax)(v:aA)(b:Nat)(n depth:Int),cB M w v e->iG e=true->se w0 w M q b n->1<=depth->depth+kX e<=9->0<=n->n+eB e<=40->_):=λe he M w v b n depth=>ih e he w0 hT M w v q b n depth;have gO:=ag hsl;have HMQ:Hd (M q):=V9.mq;have e0:(eB (.mk k en s l):Int)=dB l+1:=by simp[eB]
  rw[e0];have zA:=ag hn2;go_enter func315,ntmps315;go_wp2_with fail;rw[<-hW1];refine cC (SR.o) λw2 bE=> ?_;have qj:=ag (oy.o.ae bE);have SB:Hd (ao (λi=>i=q) w w2):=q9.o.trans (ao.az bE);have⟨y0,y1,y2,y3⟩:=af ((bE.block w (Qaa.1 fp.o).1).trans fp.o);go_wp2;go_loopg [8,34]l.length(λg _ iv wr=>∃i:Nat,i<=l.length/\g=l.length-i/\iv=xI i/\Hd (se w0 wr M q b (n+1+dB (l.take i)))/\Hd (ao (λi=>i=q) w wr));case atStart=>exact⟨0,Qbf _,rfl,rfl,(show se _ _ _ _ _ _ by simpa [dB]using qj.o),SB⟩
  case round=>
   obtain⟨i,hi,rfl,rfl,HK,HO⟩:=hrel;by_cases bH:i<l.length
   .have⟨⟨xk,xn,xs,xl⟩,hx⟩:=eG l i bH;have⟨bl,off,cap',a',c',hv,hbl,hMb,hxs,hxz,q0,q1,q2,q3⟩:=xH (gO.o.ev (Jy HMQ.o HO.o)) hx;obtain⟨rfl,rfl⟩:=iY hv;have⟨g1,g2,g3⟩:=tA hx;have g4:=oJ hx;have g5:=pP l (i+1);have bI:=ag (λo=>HIH.o (.mk xk xn xs xl) (by omega) M (wr.alloc o) (.agg #[xk,xn,xs,xL a' xl.length c']) b (n+1+dB (l.take i)) (depth+1) (xJ (hxs.ae (dS.alloc bT o)) hxz) (g3 zA.o) (HK.o.ae (dS.alloc bT o)) (by omega) (by omega) (by omega) (by omega));have qdg:=ag (show n+1+(dB (l.take i):Int)+(eB (.mk xk xn xs xl):Int)=n+1+(dB (l.take (i+1)):Int)by rw[g4];omega);go_wp2_with fail;refine(bI.o _).mono ?_;rintro e w3⟨rfl,hb3,J9⟩;have um:=ag (show se w0 w3 M q b (n+1+dB (l.take (i+1)))by rw[<-qdg.o];exact(HK.o.ae bU).Ll J9 hb3);have uw:Hd (ao (λi=>i=q) w w3):=(HO.o.alloc _).trans J9;go_wp2;go_roundg(l.length-(i+1));case measure=>omega
    case rel=>exact⟨i+1,by omega,rfl,by go_num,um,uw⟩
   .go_wp2;go_ret;refine⟨rfl,?_,HO.o⟩;have h1:=HK.o.blk;rw[Qah (by omega)]at h1;rw[show n+((dB l:Int)+1)=n+1+dB l from by omega];exact h1
def Ao(e:aG)(hn:iG e=true)(hd:kX e<=8)(hs:eB e<=40)(M:aV)(w:ax)(v:aA)(hM:Bd M w)(hag:cB M w v e)(hT:Tb w):
 xC 273 #[v] w λe' w'=>e'=xR true/\aC w w':=by
 obtain⟨k,en,s,l⟩:=e;obtain⟨a,cap,rfl,hsl⟩:=eH hag;have HR:Hd (∀(w1:ax)(b q:Nat),aC w w1->eY w1 b->bW w1 q (Tn b 0)->w<=q->b≠q->xC 315 #[xP q, .agg #[k,en,s,xL a l.length cap],xI 1] w1 λe' w'=>e'=xR true/\w'.heap[q]? =some (Tn b (0+eB (.mk k en s l)))/\ao (λi=>i=q) w1 w'):=λw1 b q hb hB hq hqw hne=>
  GS _ (.mk k en s l) bT w hT (orM M q) w1 _ q b 0 1 (hag.ev ⟨ao.az hb,λi hi=>hi.imp_right λe=>by omega⟩) hn ⟨hq,hB,hb,hqw,hne, .inr rfl⟩ (by omega) (by omega) (by omega) (by omega);go_enter func273,ntmps273;go_wp2_with fail;refine(uM _).mono ?_;rintro e w1⟨b,rfl,hB,Qw,hb1⟩;have⟨g0,g1,g2,g3⟩:=af (boxed hb1);have HX:=ag (boxed hb1);have s1:=hb1.size;simp only[World.size_alloc]at s1 Qw;have bz:=ag (bt hb1);have CG:=ag hB;have hbl:b<w1:=(Qaa.1 hB).1;have hne:b≠w1:=by omega
 have hwn:w.heap.size≠w1:=by omega
 have g0':=λo=>bR w1 o _ g0;have g1':=λo=>bR w1 o _ g1;have g2':=λo=>bR w1 o _ g2;have g3':=λo=>bR w1 o _ g3;go_wp2_with fail;refine(HR.o (w1.alloc (xK #[.map (some b),xI 0] 385)) b w1 (by exact bz.o.alloc bz.o.size _) (by exact CG.o.ae bU) (by exact Qbh w1 (Tn b 0)) bz.o.size hne).mono ?_;rintro e w2⟨rfl,_,ho⟩;have HO:=ag ho;go_wp2;go_ret;exact⟨rfl,xE (bz.o.alloc bz.o.size _) HO.o bz.o.size⟩
def YI {l:List aA}{o:Nat}{a b:aA}(h:o+2<=l.length):((l.set o a).set (o+1) b).take (o+2)=l.take o++[a,b]:=by
 apply List.ext_getElem?;intro i;rw[List.getElem?_take,List.getElem?_append];have hl:(l.take o).length=o:=by simp;omega
 rw[hl];by_cases h1:i<o
 .rw[if_pos (by omega),if_pos h1];rw[List.getElem?_set_ne (by omega),List.getElem?_set_ne (by omega),List.getElem?_take,if_pos h1]
 .rw[if_neg h1];by_cases h2:i<o+2
  .rw[if_pos h2];have:i=o\/i=o+1:=by omega
   rcases this with rfl|rfl
   .rw[List.getElem?_set_ne (by omega),List.getElem?_set_self (by omega)];simp
   .rw[List.getElem?_set_self (by simp;omega)];simp
  .rw[if_neg h2];rw[List.getElem?_eq_none (by simp;omega)]
theorem dN.OQ {α:Type} [aD α](h4:aD.size α=2){n:Nat}{xs:List α}(h:dN M B t w n xs)(hk:xs.length=k)(hn:k<n){x:α}{a b:aA}(hx:aD.rep (orM M B) w [a,b] x):
 dN M B t ((w.setCell (B,k*2) a).setCell (B,k*2+1) b) n (xs++[x]):=by
 obtain⟨cur,css,h1,h2,h3,h5,h6,h7⟩:=h;subst hk;rw[h4]at h2 h6;have E:Ev (orM M B) w (orM M B) ((w.setCell (B,xs.length*2) a).setCell (B,xs.length*2+1) b):=
  ((Ev.refl _ w).setCell (.inl (.inr rfl)) a).setCell (.inl (.inr rfl)) b;have hh:=Qca _ B (xs.length*2+1) _ _ b (Qca _ B (xs.length*2) _ _ a h1);refine⟨_,css++[[a,b]],hh,by rw[h4];simp[h2],by simp;omega,by simp[h5],?_,λi cs y hc hy=> ?_⟩
 .rw[h4];simp only[List.flatten_append,List.flatten_cons,List.flatten_nil,List.append_nil,Qda,Qcc,Qcd,h6,Array.toList_setIfInBounds];rw[show(xs.length+(0+1))*2=xs.length*2+2 from by omega];rw[YI (by simp[h2];omega)]
 .by_cases hi:i<css.length
  .rw[Qbc hi]at hc;rw[Qbc (by omega)]at hy;exact aD.ev (h7 i cs y hc hy) E
  .rw[Qbd (by omega)]at hc;rw[Qbd (by omega)]at hy;rw[h5]at hc;have h0:i-xs.length=0:=by
    cases hq:i-xs.length with
    |zero=>rfl
    |succ q=>rw[hq]at hc;simp at hc
   rw[h0]at hc hy;simp at hc hy;subst hc hy;exact aD.ev hx E
def Lv:(Tryz.prog.info? 49).map (λi=>(i.zero,i.size,i.bytes))=some (some (.agg #[xI 0,xI 0]),2,16):=by kernel_rfl
structure su(N:aV)(c:aI)(vs:List aJ)(b bm:Nat)(w:ax):Prop where
 box:∃fa fc vv,w.heap[b]? =some (xK #[c.ai,xL fa c.ah.length fc,vv, .map (some bm)] 405)/\ab N w (xL fa c.ah.length fc) c.ah/\ab N w vv vs
 calls:fR w bm
theorem su.ae(h:su N c vs b bm w)(k:aC w w'):su N c vs b bm w':=by
 obtain⟨⟨fa,fc,vv,h1,h2,h3⟩,h4⟩:=h;exact⟨⟨fa,fc,vv,(k.block b (Qaa.1 h1).1).trans h1,h2.ae k,h3.ae k⟩,h4.ae k⟩
def sw(c:aI)(e:aG)(t:br):Prop:=∀(M N:aV)(w:ax)(v:aA)(b bm:Nat)(vs:List aJ),cB M w v e->su N c vs b bm w->
 xC 327 #[xP b,v] w λε w'=>ε=xR (.tuple #[.agg #[t.an,t.of],true])/\aC w w'
def j7:List (aY×Int×List Int):=[(⟨#[108,101,110]⟩,1,[2]),(⟨#[108,101,102,116]⟩,2,[2,1]),(⟨#[102,114,111,109]⟩,2,[2,1]),(⟨#[102,105,110,100]⟩,1,[2,2]),(⟨#[116,101,120,116]⟩,2,[1])]
def G8(h:fR w bm){k:Int}{ks:List Int}(hm:(s,k,ks)∈j7):∃v f,iB (λi=>i<=bm) w v k ks/\∀W,W.heap[bm]? =w.heap[bm]?->(Instr.lookup 402 (.map (some bm)) s false).run prog W= .ok (gS v f) W:=by
 obtain⟨es,clk,h0,⟨v1,a1,t1⟩,⟨v2,a2,t2⟩,⟨v3,a3,t3⟩,⟨v4,a4,t4⟩,⟨v5,a5,t5⟩,h6⟩:=h;simp only[j7,Qdf,List.not_mem_nil,or_false,Prod.mk.injEq]at hm;rcases hm with⟨rfl,rfl,rfl⟩|⟨rfl,rfl,rfl⟩|⟨rfl,rfl,rfl⟩|⟨rfl,rfl,rfl⟩|⟨rfl,rfl,rfl⟩
 .exact⟨v1,_,t1,λW hW=>fC (hW.trans h0) _ _ a1⟩
 .exact⟨v2,_,t2,λW hW=>fC (hW.trans h0) _ _ a2⟩
 .exact⟨v3,_,t3,λW hW=>fC (hW.trans h0) _ _ a3⟩
 .exact⟨v4,_,t4,λW hW=>fC (hW.trans h0) _ _ a4⟩
 .exact⟨v5,_,t5,λW hW=>fC (hW.trans h0) _ _ a5⟩
def JD(h:fR w bm):∀W,W.heap[bm]? =w.heap[bm]?->(Instr.lookup 402 (.map (some bm)) (xS ⟨#[105,102]⟩) false).run prog W= .ok (gS (.func (.func 366) #[] #[]) 367) W:=by
 obtain⟨es,clk,h0,_,_,_,_,_,h6⟩:=h;exactλW hW=>fC (hW.trans h0) _ _ h6
inductive sx(c:aI):Int->aY->List br->br->Prop
 |num(s:aY):sx c 1 s [] ⟨1,0⟩
 |txt(s:aY):sx c 2 s [] ⟨2,0⟩
 |fld(f:aH)(i:Nat):fieldAt c f.ai=i->c.ah[i]? =some f->sx c 3 f.ai [] f.type
 |ari(s:aY):s=⟨#[42]⟩\/s=⟨#[45]⟩\/s=⟨#[47]⟩->sx c 4 s [⟨1,0⟩,⟨1,0⟩] ⟨1,0⟩
 |cat:sx c 4 ⟨#[38]⟩ [⟨2,0⟩,⟨2,0⟩] ⟨2,0⟩
 |cmp(s:aY):s=⟨#[61]⟩\/s=⟨#[62]⟩->sx c 4 s [⟨1,0⟩,⟨1,0⟩] ⟨1,0⟩
 |call(s:aY)(k:Int)(ts:List br):(s,k,ts.map (·.an))∈j7->sx c 6 s ts ⟨k,0⟩
 |ite(p:Int):p=1\/p=2->sx c 6 ⟨#[105,102]⟩ [⟨1,0⟩,⟨p,0⟩,⟨p,0⟩] ⟨p,0⟩
def DZ(k n:Int)(s:aY)(v:aA):Obj:=xK #[k,n,s,v] 319
def JE {l:List aG}(h:ab M w v l){k n:Int}{ll:List aG}(hx:l[i]? =some (.mk k n s ll)):∃b off cap a c,v=xL (b,off) l.length cap/\b<w.heap.size/\∀W,aC w W->(bJ W b (off+i*4) k/\bJ W b (off+i*4+1) n/\bJ W b (off+i*4+2) s/\bJ W b (off+i*4+3) (xL a ll.length c))/\cB M W (.agg #[k,n,s,xL a ll.length c]) (aG.mk k n s ll):=by
 have⟨b,off,cap,a,c,h1,h2,_,h4,h5,h6,h7,h8,h9⟩:=xH h hx;exact⟨b,off,cap,a,c,h1,h2,λW hB=>⟨⟨(hB.cell (p:=⟨b,off+i*4,none⟩) h2).trans h6,(hB.cell (p:=⟨b,off+i*4+1,none⟩) h2).trans h7,(hB.cell (p:=⟨b,off+i*4+2,none⟩) h2).trans h8,(hB.cell (p:=⟨b,off+i*4+3,none⟩) h2).trans h9⟩,xJ (h4.ae hB) h5⟩⟩
def dV(c:aI)(hcn:c.ai.size<=maxLen)(k n:Int)(s:aY)(l:List aG)(ts:List br)(t:br)(Q3:ts.length<=3)(Qy:l.length=ts.length)(Qz:∀(i:Nat)(x:aG)(u:br),l[i]? =some x->ts[i]? =some u->sw c x u)(Fp:sx c k s ts t):sw c (.mk k n s l) t:=by
 intro M N w v b bm vs hag hsc;obtain⟨cs,rfl,hrep⟩:=hag;obtain⟨lv,rfl,hsl,hss⟩:=cO.iff.1 hrep;have⟨i0,hi0,hz0,hz1,hz2⟩:=info_parts Lv;have CM:Hd (∀W,aC w W->su N c vs b bm W):=λW hb=>hsc.ae hb;have HK:Hd (∀(i:Nat)(k n:Int)(s:aY)(ll:List aG),l[i]? =some (aG.mk k n s ll)->_):=λi k n s ll hx=>JE hsl hx;have bI:Hd (∀(i:Nat)(x:aG)(u:br)(W:ax)(v:aA),l[i]? =some x->ts[i]? =some u->aC w W->cB M W v x->_):=λi x u W v h1 h2 h3 h4=>Qz i x u h1 h2 M N W v b bm vs h4 (hsc.ae h3);have Qw:b<w:=by
  obtain⟨⟨fa,fc,vv,h1,_⟩,_⟩:=hsc;exact(Qaa.1 h1).1
 have SV:bm<w:=by
  obtain⟨_,es,clk,h0,_⟩:=hsc;exact(Qaa.1 h0).1
 have SR:=ag Fp;obtain⟨la,lc,rfl,hlc,hlm,_⟩:=hsl.aq;have Sx:Hd (ts.length=ts.length):=rfl;generalize hnn:ts.length=m at*;have eJ:=ag Qy;rw[Qy]at hlc HK⊢;have⟨cur,hmk,hcs⟩:=mN (P:=prog) ((w.alloc (DZ k n s (.slice la m lc))).alloc (FB 0 0)) 429 49 i0 _ underlying429 hi0 hz0 m (by omega) (by omega);have zG:=ag hnn;clear hsc hrep hsl Qz Fp Qy hnn Sx;have iW:Hd (Bx w [DZ k n s (xL la m lc),FB 0 0] (((w.alloc (DZ k n s (xL la m lc))).alloc (FB 0 0)).alloc (.cells cur 49))):=(Bx.du w _ _).alloc _;have IZ:Hd (dN (α:=br) xF [w,w] 49 (((w.alloc (DZ k n s (xL la m lc))).alloc (FB 0 0)).alloc (.cells cur 49)) m []):=dN.made cur ((Bx.gj w _ _ _).fB rfl) (by rw[hcs,hz1];rfl);clear hcs;rw[show((w.alloc (DZ k n s (xL la m lc))).alloc (FB 0 0)).heap.size=[w,w]from by simp]at hmk;unfold DZ FB at hmk iW IZ;go_enter func327,ntmps327;go_wp2;go_loopg [7,8,9,10,20]m(λg _ _ _ _ iv wr=>∃i:Nat,i<=m/\g=m-i/\iv=xI i/\Hd (Bx w [DZ k n s (xL la m lc),FB 0 0] wr)/\Hd (dN (α:=br) xF [w,w] 49 wr m (ts.take i)));case atStart=>exact⟨0,Qbf _,rfl,rfl,iW,IZ⟩
 case round=>
  obtain⟨i,hi,rfl,rfl,HB,HA⟩:=hrel;have hsz:=HB.o.bQ;simp only[Qcc,Qcd]at hsz;have Wk:w.heap.size+1+1<wr:=HA.o.lt;by_cases bH:i<m
  .have⟨⟨xk,xn,xs,xl⟩,hx⟩:=eG l i (by rw[eJ.o];exact bH);have⟨⟨uk,uo⟩,hu⟩:=eG ts i (by rw[zG.o];exact bH);have⟨bk,off,cap,xa,xc,hv,hbk,hcells⟩:=HK.o i _ _ _ _ hx;obtain⟨rfl,rfl⟩:=iY hv;have⟨⟨q0,q1,q2,q3⟩,_⟩:=hcells wr HB.o.1;have lM:=ag (λo=>bI.o i _ _ (wr.alloc o) _ hx hu (HB.o.1.alloc HB.o.1.size o) (hcells (wr.alloc o) (HB.o.1.alloc HB.o.1.size o)).2);have nN:=ag (show ts.take (i+1)=ts.take i++[⟨uk,uo⟩]by rw[Qbb,hu];rfl);have sZ:=ag (show(ts.take i).length=i by have:=zG.o;rw[Qdb];omega);clear hv hcells hx hu;go_wp2_with fail;refine cC (lM.o _) λw1 hb1=> ?_;have bz:=ag (HB.o.ae (bt hb1));have mz:=ag (HA.o.ae (bt hb1));have qdn:=mz.o.lt;clear hb1;have XJ:i*2+1<m*2:=by omega
   have⟨u0,p0,f0⟩:=mz.o.cell (j:=i*2) (by show _<m*2;omega);have⟨u1,p1,f1⟩:=mz.o.cell (j:=i*2+1) (by show _<m*2;omega);go_wp2;go_roundg(m-(i+1));case measure=>omega
   case rel=>
    refine⟨i+1,by omega,rfl,by go_num,?_,?_⟩
    .exact((bz.o.dG (B:=w.heap.size+2) ((dS.setCell (by simp) _).setCell (by simp) _) (by simp)).alloc _)
    .exact(show dN _ _ _ _ _ _ by rw[nN.o];exact(mz.o.OQ rfl sZ.o bH rfl).ae bU)
  .have sY:=ag (show ab xF wr (xL (some ⟨[w,w],0,none⟩) m m) ts by
    have h1:=HA.o;rw[Qah (by rw[zG.o];omega)]at h1;exact h1.slice zG.o (λh=>h) (by unfold maxLen;omega));have⟨e0,e1,e2,e3⟩:=af (HB.o.bO rfl);have⟨c0,c1⟩:=ak (HB.o.cg rfl);have⟨f0,f1⟩:=mu (HB.o.cg rfl);clear HA;cases SR.o with
   |num s=>
    go_wp2_with fail;refine Qae (v:= .tuple #[.agg #[xI 1,xI 0],true]) (by simp[results,results327,go_sem,c0,c1]) rfl ⟨rfl,?_⟩;exact(HB.o.1.setCell (by simp) _).setCell (by simp) _
   |txt s=>
    go_wp2_with fail;refine Qae (v:= .tuple #[.agg #[xI 2,xI 0],true]) (by simp[results,results327,go_sem,c0,c1]) rfl ⟨rfl,?_⟩;exact(HB.o.1.setCell (by simp) _).setCell (by simp) _
   |fld f i Q7 MV=>
    have HSW:=CM.o w dS;obtain⟨⟨fa,fc,vv,hbx,hfs,_⟩,_⟩:=HSW;have cI:Hd (∀W,aC w W->bW W b (xK #[c.ai,xL fa c.ah.length fc,vv, .map (some bm)] 405)):=λW hb=>(hb.block b Qw).trans hbx;have CI:Hd (∀W,aC w W->xC 107 #[.agg #[c.ai,xL fa c.ah.length fc],f.ai] W (cu (.tuple #[xI (i:Int),true]) W)):=λW hb=>mC N _ W c f.ai i true (hfs.ae hb) hcn (by rw[Q7];rw[if_neg (by omega)]) (by rw[Q7];simp);have Ng:=ag (nG hfs MV);have⟨bf,of,cf,hfv,hbf,_,_⟩:=Ng.o;obtain⟨rfl,rfl⟩:=iY hfv;have XO:Hd (∀W,aC w W->bJ W bf (of+i*4+1) f.type.an/\bJ W bf (of+i*4+2) f.type.of):=λW hb=>by
     have⟨b2,o2,c2,h1,_,_,h4⟩:=Ng.o;obtain⟨⟨rfl,rfl⟩,rfl⟩:(bf=b2/\of=o2)/\fc=c2:=by simpa using h1
     exact⟨(h4 W hb).2.1,(h4 W hb).2.2.1⟩
    have vZ:=(Qad.1 MV).1;have⟨b0,b1,b2,b3⟩:=af (cI.o wr HB.o.1);clear hbx hfs hfv Ng Q7 MV;go_upto_region 14 with fail;go_region_law(first
     |(go_simp;go_at_call 107;refine cC (CI.o _ HB.o.1.drew) λw2 bE=> ?_;have bg:=ag (HB.o.drew.ae bE);clear bE));all_goals
     have⟨b0,b1,b2,b3⟩:=af (cI.o w2 bg.o.1);have⟨q1,q2⟩:=XO.o w2 bg.o.1;have⟨c0,c1⟩:=ak (bg.o.cg rfl);have⟨f0,f1⟩:=mu (bg.o.cg rfl);go_wp2_with fail;refine Qae (v:= .tuple #[.agg #[f.type.an,f.type.of],true]) (by simp[results,results327,go_sem,c0,c1]) rfl ⟨rfl,?_⟩;exact(bg.o.1.setCell (by simp) _).setCell (by simp) _
   |ari s hs=>
    go_wp2_with fail;refine(G5 s hs _).mono ?_;rintro e w2⟨_,rfl,⟨p,q,kv,rfl,_,_,h4,h5,h6⟩,bE⟩;have bg:=ag (HB.o.ae bE);have MN:=ag (tO [⟨1,0⟩,⟨1,0⟩] 1 xF xF w2 _ undef (by simp) (sY.o.ae bE) p q kv h4 h5 h6);clear h4 h5 h6 bE;go_wp2_with fail;refine cC (MN.o) λw3 hb3=> ?_;have bV:=ag (bg.o.ae hb3);have⟨c0,c1⟩:=ak (bV.o.cg rfl);have⟨f0,f1⟩:=mu (bV.o.cg rfl);clear hb3;go_wp2_with fail;refine Qae (v:= .tuple #[.agg #[xI 1,xI 0],true]) (by simp[results,results327,go_sem,c0,c1]) rfl ⟨rfl,?_⟩;exact(bV.o.1.setCell (by simp) _).setCell (by simp) _
   |cat=>
    go_wp2_with fail;refine(G6 _).mono ?_;rintro e w2⟨_,rfl,⟨p,q,kv,rfl,_,_,h4,h5,h6⟩,bE⟩;have bg:=ag (HB.o.ae bE);have MN:=ag (tO [⟨2,0⟩,⟨2,0⟩] 2 xF xF w2 _ undef (by simp) (sY.o.ae bE) p q kv h4 h5 h6);clear h4 h5 h6 bE;go_wp2_with fail;refine cC (MN.o) λw3 hb3=> ?_;have bV:=ag (bg.o.ae hb3);have⟨c0,c1⟩:=ak (bV.o.cg rfl);have⟨f0,f1⟩:=mu (bV.o.cg rfl);clear hb3;go_wp2_with fail;refine Qae (v:= .tuple #[.agg #[xI 2,xI 0],true]) (by simp[results,results327,go_sem,c0,c1]) rfl ⟨rfl,?_⟩;exact(bV.o.1.setCell (by simp) _).setCell (by simp) _
   |cmp s hs=>
    go_wp2_with fail;refine dw (G7 s hs _) ?_;have MN:=ag (OP ⟨1,0⟩ (.inl rfl) _ wr _ sY.o);go_wp2_with fail;refine cC (MN.o) λw3 hb3=> ?_;have bV:=ag (HB.o.ae hb3);have⟨c0,c1⟩:=ak (bV.o.cg rfl);have⟨f0,f1⟩:=mu (bV.o.cg rfl);clear hb3;go_wp2_with fail;refine Qae (v:= .tuple #[.agg #[xI 1,xI 0],true]) (by simp[results,results327,go_sem,c0,c1]) rfl ⟨rfl,?_⟩;exact(bV.o.1.setCell (by simp) _).setCell (by simp) _
   |call s k ts hm=>
    have⟨⟨fa,fc,vv,hbx,_,_⟩,hca⟩:=CM.o wr HB.o.1;have⟨b0,b1,b2,b3⟩:=af hbx;obtain⟨v,f,⟨p,q,kv,rfl,_,_,h4,h5,h6⟩,pM⟩:=G8 hca hm;have QA:=pM wr.drew rfl;have MN:=ag (tO ts k xF (λi=>i<=bm) wr.drew _ undef (by have:=zG.o;omega) (sY.o.ae (w':=wr.drew) ⟨rfl,rfl,rfl,bT,λ_ _=>rfl⟩) p q kv h4 h5 (h6.ev ((Ev.refl _ _).drew)));clear h4 h5 h6 pM hbx hca hm;unfold gS at QA;have hfd:∀(v u:aA)(w:ax),(Instr.field 425 (.agg #[v,u]) 0).run prog w= .ok v w:=λ_ _ _=>by kernel_rfl
    go_upto_region 23 with fail;go_region_law(first
     |(go_simp;go_at_call 391;refine cC (MN.o) λw3 hb3=> ?_;have bV:=ag (HB.o.drew.ae hb3);clear hb3;have c0:=(ak (bV.o.cg rfl)).1;have c1:=(ak (bV.o.cg rfl)).2;have f0:=aj (bV.o.cg rfl) 0;have f1:=aj (bV.o.cg rfl) 1));all_goals
     go_wp2_with fail;refine Qae (v:= .tuple #[.agg #[k,xI 0],true]) (by simp[results,results327,go_sem,c0,c1]) rfl ⟨rfl,?_⟩;exact(bV.o.1.setCell (by simp) _).setCell (by simp) _
   |ite p hp=>
    have⟨⟨fa,fc,vv,hbx,_,_⟩,hca⟩:=CM.o wr HB.o.1;have⟨b0,b1,b2,b3⟩:=af hbx;have QA:=JD hca wr.drew rfl;have MN:=ag (Lu ⟨p,0⟩ hp xF wr.drew _ (sY.o.ae (w':=wr.drew) ⟨rfl,rfl,rfl,bT,λ_ _=>rfl⟩));clear hbx hca hp;unfold gS at QA;have hfd:∀(v u:aA)(w:ax),(Instr.field 425 (.agg #[v,u]) 0).run prog w= .ok v w:=λ_ _ _=>by kernel_rfl
    go_upto_region 23 with fail;go_region_law(first
     |(go_simp;go_at_call 366;refine cC (MN.o) λw3 hb3=> ?_;have bV:=ag (HB.o.drew.ae hb3);clear hb3;have c0:=(ak (bV.o.cg rfl)).1;have c1:=(ak (bV.o.cg rfl)).2;have f0:=aj (bV.o.cg rfl) 0;have f1:=aj (bV.o.cg rfl) 1));all_goals
     go_wp2_with fail;refine Qae (v:= .tuple #[.agg #[p,xI 0],true]) (by simp[results,results327,go_sem,c0,c1]) rfl ⟨rfl,?_⟩;exact(bV.o.1.setCell (by simp) _).setCell (by simp) _
end
end Go.Proofs.YtepaofffbkfodaaGreatDoor
