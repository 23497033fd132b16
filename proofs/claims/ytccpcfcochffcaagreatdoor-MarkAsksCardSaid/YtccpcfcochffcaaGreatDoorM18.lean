/- A part of MarkAsks's proof; no condition. -/
import Derived.Test.YtccpcfcochffcaaGreatDoorM15
import Derived.Test.YtccpcfcochffcaaGreatDoorM17
set_option linter.all false
set_option maxHeartbeats 8000000
set_option maxRecDepth 100000
namespace Go.Proofs.YtccpcfcochffcaaGreatDoor
open Tryz
open Go.RowKit
variable{b i cap j R bm yc k B:Nat}{M N:aS}{w0 w w' w3 W' w1 wr w2:aj}{s:aT}{v lv a0 a1 a2 a3 v0 v1 v2 v3:an}{a ya:dC}{sz:Int}{o:Obj}{t:TypeId}{vs:List au}{c:az}
structure sW(w0 w:aj)(M:aS)(q b:Nat)(n:Int):Prop where
 blk:w.heap[q]? =some (UI b n)
 binds:eP w b
 low:aq w0 w
 hq:w0.heap.size<=q
 ne:b≠q
 mq:M q
theorem sW.lt {q:Nat}{n:Int}(h:sW w0 w M q b n):q<w.heap.size:=(Qaa.1 h.blk).1
def nS {q:Nat}(h:aq w0 w)(k:ai (λi=>i=q) w w')(hq:w0.heap.size<=q):aq w0 w':=
 ⟨k.os.trans h.os,k.tape.trans h.tape,k.output.trans h.output,Qcg h.size k.size,λi hi=>(k.block i (Qde hi h.size) (λe=>by have:i=q:=e;omega)).trans (h.block i hi)⟩
theorem sW.below {q:Nat}{n:Int}(h:sW w0 w M q b n)(k:aq w w'):sW w0 w' M q b n:=
 ⟨(k.block q h.lt).trans h.blk,h.binds.below k,h.low.trans (k.mono h.low.size),h.hq,h.ne,h.mq⟩
theorem sW.IF {q:Nat}{n m:Int}(h:sW w0 w M q b n)(k:ai (λi=>i=q) w w')(hb:w'.heap[q]? =some (UI b m)):sW w0 w' M q b m:=
 ⟨hb,h.binds.only k h.ne,nS h.low k h.hq,h.hq,h.ne,h.mq⟩
def KB {q:Nat}(hq:M q)(k:ai (λi=>i=q) w w'):Ev M w M w':=⟨k.mono λi hi=>by have:i=q:=hi;rw[this];exact hq,λ_ h=> .inl h⟩
theorem qY:∀l:List ax,l.length<=df l
 |[]=>by simp
 |e::r=>by have:=qY r;have:=uD e;simp only[df,Qcc];omega
def yY {l:List ax}(h:ab M w v l){k n:Int}{ll:List ax}(hx:l[i]? =some (.mk k n s ll)):∃b off cap a c,v=xL (some ⟨b,off,none⟩) l.length cap/\b<w.heap.size/\¬M b/\ab M w (xL a ll.length c) ll/\s.size<=maxLen/\aU w b (off+i*4) (xI k)/\aU w b (off+i*4+1) (xI n)/\aU w b (off+i*4+2) (xS s)/\aU w b (off+i*4+3) (xL a ll.length c):=by
 obtain⟨a,cap,rfl,hl,_,hc⟩:=h.open_;have hk:=(Qad.1 hx).1;obtain⟨b,off,rfl,hM,hb,aG⟩:=hc (by omega);obtain⟨cs,hr,bD⟩:=aG i _ hx;obtain⟨av,rfl,hs,hsz⟩:=cC.iff.1 hr;have jC:=hs;obtain⟨a,c,rfl,_⟩:=jC.open_;exact⟨b,off,cap,a,c,rfl,hb,hM,hs,hsz,bD 0 _ rfl,bD 1 _ rfl,bD 2 _ rfl,bD 3 _ rfl⟩
def yZ {k n:Int}{l:List ax}(h:ab M w (xL a l.length cap) l)(hs:s.size<=maxLen):bS M w (.agg #[xI k,xI n,xS s,xL a l.length cap]) (ax.mk k n s l):=⟨_,rfl,cC.iff.2 ⟨_,rfl,h,hs⟩⟩
def IG:∀(N:Nat)(e:ax),eo e<=N->∀(w0:aj),Tb w0->∀(M:aS)(w:aj)(v:an)(q b:Nat)(n depth:Int),bS M w v e->ir e=true->sW w0 w M q b n->1<=depth->depth+kR e<=9->0<=n->n+eo e<=40->
 xC 281 #[xP q,v,xI depth] w λe' w'=>e'=xR (xB true)/\w'.heap[q]? =some (UI b (n+eo e))/\ai (λi=>i=q) w w':=by
 intro N;induction N with
 |zero=>intro e he;have:=uD e;omega
 |succ N ih=>
  intro e he w0 hT M w v q b n depth gz qL Xs RU hd tN hn;obtain⟨k,en,s,l⟩:=e;obtain⟨a,cap,rfl,bo⟩:=eA gz;have j6:s.size<=maxLen:=by obtain⟨cs,_,hr⟩:=gz;obtain⟨_,_,_,h⟩:=cC.iff.1 hr;exact h
  simp only[ir,Qce]at qL;obtain⟨vj,Cd⟩:=qL;have hsz:s.size<=200:=by have:=yj vj;rw[bh]at this;exact this
  simp only[eo]at he hn;simp only[kR]at hd;have qa8:l.length<=cap/\cap<=9223372036854775807:=by obtain⟨_,_,e,h1,h2,_⟩:=bo.open_;cases e;exact⟨h1,h2⟩
  obtain⟨Q5,Q6⟩:=qa8;have qd2:l.length<=40:=by have:=qY l;omega
  have hqw:=Xs.lt;have hqn:q≠w.heap.size:=by omega
  obtain⟨r0,r1⟩:=ah Xs.blk;have f1:=ag Xs.blk 1;have hd8:¬depth>8:=by omega
  have qg7:¬n+1>40:=by omega
  obtain⟨W1,dS⟩:=cM ((w.setCell ⟨q,1,none⟩ (xI (n+1))).alloc (xK #[xI k,xI en,xS s,xL a l.length cap] 287));have oP:=af (show ai (λi=>i=q) w W1 by rw[dS];exact((ai.refl (λi=>i=q) w).setCell (p:=⟨q,1,none⟩) (.inl rfl) _).alloc _);have mj:Hd (sW w0 W1 M q b (n+1)):=Xs.IF oP.o (by
   rw[dS];have h1:=Qca w q 1 _ _ (xI (n+1)) Xs.blk;refine(Qcb _ _ q (by simpa [World.setCell]using hqw)).trans ?_;simpa [UI]using h1);have fI:=af (show dY W1 w (xK #[xI k,xI en,xS s,xL a l.length cap] 287)by
   rw[dS];have h1:=Qbh (w.setCell ⟨q,1,none⟩ (xI (n+1))) (xK #[xI k,xI en,xS s,xL a l.length cap] 287);rw[show(w.setCell ⟨q,1,none⟩ (xI (n+1))).heap.size=w.heap.size by simp[World.setCell]]at h1;exact h1);have rC:Hd (ab M W1 (xL a l.length cap) l):=bo.ev (KB Xs.mq oP.o);have xO:=af (Pm M W1 q b (n+1) k en s l _ rC.o hsz vj mj.o.blk mj.o.binds (hT.below mj.o.low));obtain⟨p0,p1⟩:=ah mj.o.blk;obtain⟨x0,x1,x2,x3⟩:=ae fI.o;have HIH:Hd (∀e,eo e<=N->∀(M:aS)(w:aj)(v:an)(b:Nat)(n depth:Int),bS M w v e->ir e=true->sW w0 w M q b n->1<=depth->depth+kR e<=9->0<=n->n+eo e<=40->_):=λe he M w v b n depth=>ih e he w0 hT M w v q b n depth;have eE:=af bo;have HMQ:Hd (M q):=Xs.mq;have e0:(eo (.mk k en s l):Int)=df l+1:=by simp[eo]
  rw[e0];have qz:=af Cd;go_enter func281,ntmps281;go_wp2_with fail;rw[<-dS];refine cG (xO.o) λw2 aY=> ?_;have qB:=af (mj.o.below aY);have ue:Hd (ai (λi=>i=q) w w2):=oP.o.trans (ai.ao aY);obtain⟨y0,y1,y2,y3⟩:=ae ((aY.block w.heap.size (Qaa.1 fI.o).1).trans fI.o);go_wp2;go_loopg [8,34]l.length(λg _ iv wr=>∃i:Nat,i<=l.length/\g=l.length-i/\iv=xI i/\Hd (sW w0 wr M q b (n+1+df (l.take i)))/\Hd (ai (λi=>i=q) w wr));case atStart=>exact⟨0,Qbf _,rfl,rfl,(show sW _ _ _ _ _ _ by simpa [df]using qB.o),ue⟩
  case round=>
   obtain⟨i,hi,rfl,rfl,HK,HO⟩:=hrel;by_cases aX:i<l.length
   .obtain⟨⟨xk,xn,xs,xl⟩,hx⟩:=dQ l i aX;obtain⟨bl,off,fq,a',c',hv,cw,Dl,iO,hxz,q0,q1,q2,q3⟩:=yY (eE.o.ev (KB HMQ.o HO.o)) hx;obtain⟨rfl,rfl⟩:=gY hv;obtain⟨g1,g2,g3⟩:=uC hx;have g4:=pj hx;have g5:=qb l (i+1);have bt:=af (λo=>HIH.o (.mk xk xn xs xl) (by omega) M (wr.alloc o) (.agg #[xI xk,xI xn,xS xs,xL a' xl.length c']) b (n+1+df (l.take i)) (depth+1) (yZ (iO.below (dK.alloc bq o)) hxz) (g3 qz.o) (HK.o.below (dK.alloc bq o)) (by omega) (by omega) (by omega) (by omega));have qd3:=af (show n+1+(df (l.take i):Int)+(eo (.mk xk xn xs xl):Int)=n+1+(df (l.take (i+1)):Int)by rw[g4];omega);go_wp2_with fail;refine(bt.o _).mono ?_;rintro e w3⟨rfl,bG,Gu⟩;have lO:=af (show sW w0 w3 M q b (n+1+df (l.take (i+1)))by rw[<-qd3.o];exact(HK.o.below bO).IF Gu bG);have mC:Hd (ai (λi=>i=q) w w3):=(HO.o.alloc _).trans Gu;go_wp2;go_roundg(l.length-(i+1));case measure=>omega
    case rel=>exact⟨i+1,by omega,rfl,by go_num,lO,mC⟩
   .go_wp2;go_ret;refine⟨rfl,?_,HO.o⟩;have h1:=HK.o.blk;rw[Qah (by omega)]at h1;rw[show n+((df l:Int)+1)=n+1+df l from by omega];exact h1
def BH(e:ax)(hn:ir e=true)(hd:kR e<=8)(hs:eo e<=40)(M:aS)(w:aj)(v:an)(hM:Bd M w)(gz:bS M w v e)(hT:Tb w):
 xC 267 #[v] w λe' w'=>e'=xR (xB true)/\aq w w':=by
 obtain⟨k,en,s,l⟩:=e;obtain⟨a,cap,rfl,bo⟩:=eA gz;have HR:Hd (∀(w1:aj)(b q:Nat),aq w w1->eP w1 b->cI w1 q (UI b 0)->w.heap.size<=q->b≠q->xC 281 #[xP q, .agg #[xI k,xI en,xS s,xL a l.length cap],xI 1] w1 λe' w'=>e'=xR (xB true)/\w'.heap[q]? =some (UI b (0+eo (.mk k en s l)))/\ai (λi=>i=q) w1 w'):=λw1 b q hb hB hq hqw iG=>
  IG _ (.mk k en s l) bq w hT (orM M q) w1 _ q b 0 1 (gz.ev ⟨ai.ao hb,λi hi=>hi.imp_right λe=>by omega⟩) hn ⟨hq,hB,hb,hqw,iG, .inr rfl⟩ (by omega) (by omega) (by omega) (by omega);go_enter func267,ntmps267;go_wp2_with fail;refine(vR _).mono ?_;rintro e w1⟨b,rfl,hB,Vf,aC⟩;obtain⟨g0,g1,g2,g3⟩:=ae (boxed aC);have HX:=af (boxed aC);have s1:=aC.size;simp only[World.size_alloc]at s1 Vf;have aO:=af (aQ aC);have Gr:=af hB;have cw:b<w1.heap.size:=(Qaa.1 hB).1;have iG:b≠w1.heap.size:=by omega
 have WL:w.heap.size≠w1.heap.size:=by omega
 have g0':=λo=>bF w1 o _ g0;have g1':=λo=>bF w1 o _ g1;have g2':=λo=>bF w1 o _ g2;have g3':=λo=>bF w1 o _ g3;go_wp2_with fail;refine(HR.o (w1.alloc (xK #[.map (some b),xI 0] 367)) b w1.heap.size (by exact aO.o.alloc aO.o.size _) (by exact Gr.o.below bO) (by exact Qbh w1 (UI b 0)) aO.o.size iG).mono ?_;rintro e w2⟨rfl,_,ho⟩;have HO:=af ho;go_wp2;go_ret;exact⟨rfl,nS (aO.o.alloc aO.o.size _) HO.o aO.o.size⟩
def fB(t:Tok):ye:=⟨t.kind,t.n,bL t.s,t.at_⟩
structure eU(b bm:Nat)(lv:an)(sz:Int)(T:List Tok)(w:aj)(i:Nat):Prop where
 box:w.heap[b]? =some (xK #[lv,xI i,xI sz, .map (some bm)] 341)
 toks:ab (aN b) w lv (T.map fB)
 binds:eP w bm
 ne:bm≠b
 few:T.length<=200
 le:i<=T.length
 kinds:∀t∈T,1<=t.kind/\t.kind<=4
section
variable {b bm:Nat}{lv:an}{sz:Int}{T:List Tok}{w w':aj}{i j:Nat}
theorem eU.lt(h:eU b bm lv sz T w i):b<w.heap.size:=(Qaa.1 h.box).1
theorem eU.step(h:eU b bm lv sz T w i)(ho:ai (aN b) w w')(hb:w'.heap[b]? =some (xK #[lv,xI j,xI sz, .map (some bm)] 341))(hj:j<=T.length):eU b bm lv sz T w' j:=
 ⟨hb,h.toks.ev ⟨ho,λ_ h=> .inl h⟩,h.binds.only ho h.ne,h.ne,h.few,hj,h.kinds⟩
theorem eU.below(h:eU b bm lv sz T w i)(hb:aq w w'):eU b bm lv sz T w' i:=
 h.step (ai.ao hb) ((hb.block b h.lt).trans h.box) h.le
theorem eU.next(h:eU b bm lv sz T w i)(hi:i<T.length):eU b bm lv sz T (w.setCell ⟨b,1,none⟩ (xI ((i:Int)+1))) (i+1)/\ai (aN b) w (w.setCell ⟨b,1,none⟩ (xI ((i:Int)+1))):=by
 have ho:ai (aN b) w (w.setCell ⟨b,1,none⟩ (xI ((i:Int)+1))):=(ai.refl (aN b) w).setCell (p:=⟨b,1,none⟩) (.inl rfl) _;refine⟨h.step ho ?_ (by omega),ho⟩;have:=Qca w b 1 _ _ (xI ((i:Int)+1)) h.box;simpa using this
theorem eU.cells(h:eU b bm lv sz T w i):∃a cap,lv=xL a T.length cap/\T.length<=cap/\cap<=9223372036854775807/\(∀t,T[i]? =some t->∃bl off,a=some ⟨bl,off,none⟩/\bl≠b/\bl<w.heap.size/\aU w bl (off+i*4) (xI t.kind)/\aU w bl (off+i*4+1) (xI t.n)/\aU w bl (off+i*4+2) (xS (bL t.s))/\aU w bl (off+i*4+3) (xI t.at_)):=by
 obtain⟨a,cap,hv,h1,h2,hc⟩:=h.toks.open_;rw[Qdc]at hv hc h1;refine⟨a,cap,hv,h1,h2,λt ht=> ?_⟩;have hl:=(Qad.1 ht).1;obtain⟨bl,off,ha,hM,cw,aG⟩:=hc (by omega);obtain⟨cs,⟨rfl,_⟩,bD⟩:=aG i (fB t) (by rw[List.getElem?_map,ht];rfl);exact⟨bl,off,ha,hM,cw,bD 0 _ rfl,bD 1 _ rfl,bD 2 _ rfl,bD 3 _ rfl⟩
end
def KC(b bm:Nat)(lv:an)(sz:Int)(T:List Tok)(w:aj)(i:Nat)(h:eU b bm lv sz T w i)(t:Tok)(ht:T[i]? =some t):
 xC 280 #[xP b] w (cN (ke t.kind t.n (bL t.s) t.at_) w):=by
 obtain⟨a,cap,rfl,Q5,Q6,hc⟩:=h.cells;obtain⟨p0,p1,p2,p3⟩:=ae h.box;obtain⟨bl,off,rfl,GM,cw,q0,q1,q2,q3⟩:=hc t ht;have Vf:=h.lt;have hi:=(Qad.1 ht).1;have Gj:=h.few;have US:(i:Int)<(T.length:Int):=by omega
 have dz:(0:Int)<=(i:Int):=Qba _;have RU:decide (i<T.length)=true:=by simpa using hi
 have Ys:decide ((i:Int)<(T.length:Int))=true:=by simpa using US
 have qd4:b≠w.heap.size:=by omega
 have qd5:bl≠w.heap.size:=by omega
 go_enter func280,ntmps280;go_wp2_with fail;go_quiet(fail);go_wp2_with fail;go_region;all_goals
  go_wp2_with fail;refine Qae (v:=ke t.kind t.n (bL t.s) t.at_) (by simp[results,results280,go_sem,ke]) rfl ⟨rfl,?_⟩;exact((((below_drewNv bO _).setCell (by simp) _).setCell (by simp) _).setCell (by simp) _).setCell (by simp) _
def Pn(b bm:Nat)(lv:an)(sz:Int)(T:List Tok)(w:aj)(i:Nat)(h:eU b bm lv sz T w i)(hi:i=T.length):
 xC 280 #[xP b] w (cN (ke 0 0 ⟨#[]⟩ sz) w):=by
 obtain⟨a,cap,rfl,Q5,Q6,hc⟩:=h.cells;obtain⟨p0,p1,p2,p3⟩:=ae h.box;have Vf:=h.lt;have Gj:=h.few;have US:¬(i:Int)<(T.length:Int):=by omega
 have RU:decide (i<T.length)=false:=by simp;omega
 have Ys:decide ((i:Int)<(T.length:Int))=false:=by simp;omega
 have qd4:b≠w.heap.size:=by omega
 go_enter func280,ntmps280;go_wp2_with fail;go_quiet(fail);go_wp2_with fail;refine Qae (v:=ke 0 0 ⟨#[]⟩ sz) (by simp[results,results280,go_sem,ke]) rfl ⟨rfl,?_⟩;exact((((below_drewNv bO _).setCell (by simp) _).setCell (by simp) _).setCell (by simp) _).setCell (by simp) _
def zb(b bm:Nat)(lv:an)(sz:Int)(T:List Tok)(w:aj)(i:Nat)(h:eU b bm lv sz T w i):∃(k n:Int)(s:aT)(p:Int),(∀x,dL (T.drop i) x=(decide (k=4)&&decide (s.data.toList=x)))/\(∀t,T[i]? =some t->k=t.kind/\n=t.n/\s=bL t.s)/\(T[i]? =none->k=0/\s=⟨#[]⟩)/\xC 280 #[xP b] w (cN (ke k n s p) w):=by
 cases hq:T[i]? with
 |none=>
  have hi:i=T.length:=by have:=h.le;have:=List.getElem?_eq_none_iff.1 hq;omega
  refine⟨0,0,⟨#[]⟩,sz,λx=> ?_,(λt ht=>by cases ht),λ_=>⟨rfl,rfl⟩,Pn b bm lv sz T w i h hi⟩;rw[List.drop_of_length_le (by omega)];rfl
 |some t=>
  refine⟨t.kind,t.n,bL t.s,t.at_,λx=> ?_,(λt' ht=>by cases ht;exact⟨rfl,rfl,rfl⟩),(λh=>by cases h),KC b bm lv sz T w i h t hq⟩;rw[drop_cons hq];simp only[dL,lU];rw[Bool.eq_iff_iff];simp;try omega
def EY(b bm:Nat)(lv:an)(sz:Int)(T:List Tok)(w:aj)(i:Nat)(h:eU b bm lv sz T w i)(s:aT)(hs:dL (T.drop i) s.data.toList=true):
 xC 325 #[xP b,xS s] w λe w'=>e=xR (xB true)/\eU b bm lv sz T w' (i+1)/\ai (aN b) w w':=by
 obtain⟨k,n,x,p,h1,h2,h3,YP⟩:=zb b bm lv sz T w i h;have aX:i<T.length:=by
  cases hq:T[i]? with
  |none=>rw[h1,(h3 hq).1]at hs;simp at hs
  |some t=>exact(Qad.1 hq).1
 rw[h1]at hs;simp only[Qce,decide_eq_true_eq]at hs;obtain⟨rfl,hx⟩:=hs;obtain rfl:x=s:=by cases x;cases s;simp at hx;simpa using hx
 have Lg:=af YP;have fu:=af h;go_enter func325,ntmps325;go_wp2_with fail;refine cG (Lg.o) λw1 aC=> ?_;have rC:=af (fu.o.below aC);have aO:=af aC;obtain⟨p0,p1,p2,p3⟩:=ae rC.o.box;have f1:=ag rC.o.box 1;have cw:=rC.o.lt;have GM:b≠w1.heap.size:=by omega
 have Gj:=rC.o.few;unfold ke;go_wp2;go_ret;exact⟨rfl,((rC.o.next aX).1).below bO,((ai.ao aO.o).trans (rC.o.next aX).2).alloc _⟩
def KD(b bm:Nat)(lv:an)(sz:Int)(T:List Tok)(w:aj)(i:Nat)(h:eU b bm lv sz T w i)(s:aT)(hs:dL (T.drop i) s.data.toList=false):
 xC 325 #[xP b,xS s] w (cN (xB false) w):=by
 obtain⟨k,n,x,p,h1,h2,h3,YP⟩:=zb b bm lv sz T w i h;rw[h1]at hs;have bD:(k !=4)=true\/((k !=4)=false/\(!(x.toList==s.toList))=true):=by
  by_cases hk:k=4
  .right;refine⟨by simpa using hk,?_⟩;rw[decide_eq_true hk,Bool.true_and,decide_eq_false_iff_not]at hs;simp only[Bool.not_eq_true'];cases hq:(x.toList==s.toList)with
   |false=>rfl
   |true=>exact absurd (by rw[uH hq]) hs
  .left;simpa using hk
 have Lg:=af YP;rcases bD with e1|⟨e1,e2⟩;all_goals
  go_enter func325,ntmps325;go_wp2_with fail;refine cG (Lg.o) λw1 aC=> ?_;have aO:=af aC;unfold ke;go_wp2;go_ret;exact⟨rfl,aO.o.alloc aO.o.size _⟩
def KE(b bm:Nat)(lv:an)(sz:Int)(T:List Tok)(w:aj)(i:Nat)(h:eU b bm lv sz T w i)(s:aT)(hs:dL (T.drop i) s.data.toList=true):
 xC 326 #[xP b,xS s] w λe w'=>(∃v,e=xR v)/\eU b bm lv sz T w' (i+1)/\ai (aN b) w w':=by
 have HT:=af (EY b bm lv sz T w i h s hs);go_enter func326,ntmps326;go_wp2_with fail;refine(HT.o).mono ?_;rintro e w1⟨rfl,h1,h2⟩;have H1:=af h1;have H2:=af h2;go_wp2_with fail;go_end0;exact⟨⟨_,rfl⟩,H1.o,H2.o⟩
def l8(b bm:Nat)(lv:an)(sz:Int)(T:List Tok)(w:aj)(x:ax)(r:List Tok)(e:Ending)(w':aj):Prop:=
 ∃v j,e=xR v/\bS (fp w) w' v x/\eU b bm lv sz T w' j/\r=T.drop j/\ai (aN b) w w'
def Po(b bm:Nat)(lv:an)(sz:Int)(T:List Tok)(w:aj)(l:List ax)(r:List Tok)(e:Ending)(w':aj):Prop:=
 ∃v j,e=xR v/\ab (fp w) w' v l/\eU b bm lv sz T w' j/\r=T.drop j/\ai (aN b) w w'
def EZ(b bm:Nat)(lv:an)(sz:Int)(T:List Tok)(k:Nat):Prop:=∀(least i:Nat)(x:ax)(r:List Tok)(w:aj),1<=least->least<=5->eU b bm lv sz T w i->ji k least (T.drop i)=some (x,r)->
 xC 279 #[xP b,xI least] w (l8 b bm lv sz T w x r)
def IH(b bm:Nat)(lv:an)(sz:Int)(T:List Tok)(k:Nat):Prop:=∀(i:Nat)(x:ax)(r:List Tok)(w:aj),eU b bm lv sz T w i->jr k (T.drop i)=some (x,r)->
 xC 310 #[xP b] w (l8 b bm lv sz T w x r)
def CN(b bm:Nat)(lv:an)(sz:Int)(T:List Tok)(k:Nat):Prop:=∀(n i:Nat)(l:List ax)(r:List Tok)(w:aj),0<n->n<=3->eU b bm lv sz T w i->eO k n (T.drop i)=some (l,r)->
 xC 328 #[xP b,xI n] w (Po b bm lv sz T w l r)
def GJ(k n:Int)(s:aT)(v:an):Obj:=xK #[xI k,xI n,xS s,v] 287
def Pp {T:List Tok}(h0:eU b bm lv sz T w i)(h:eU b bm lv sz T w3 j)(ho:ai (aN b) w w3)(hR:w.heap.size<=R)(v0 v1 v2 v3:an):
 eU b bm lv sz T ((((w3.setCell ⟨R,0,none⟩ v0).setCell ⟨R,1,none⟩ v1).setCell ⟨R,2,none⟩ v2).setCell ⟨R,3,none⟩ v3) j/\ai (aN b) w ((((w3.setCell ⟨R,0,none⟩ v0).setCell ⟨R,1,none⟩ v1).setCell ⟨R,2,none⟩ v2).setCell ⟨R,3,none⟩ v3):=by
 have Vf:=h0.lt;have Ch:=(((ho.setCell (p:=⟨R,0,none⟩) (.inr hR) v0).setCell (p:=⟨R,1,none⟩) (.inr hR) v1).setCell (p:=⟨R,2,none⟩) (.inr hR) v2).setCell (p:=⟨R,3,none⟩) (.inr hR) v3;refine⟨h0.step Ch ?_ h.le,Ch⟩;exact(Qag _ _ _ _ (by show b≠R;omega)).trans ((Qag _ _ _ _ (by show b≠R;omega)).trans ((Qag _ _ _ _ (by show b≠R;omega)).trans ((Qag _ _ _ _ (by show b≠R;omega)).trans h.box)))
def V6:(⟨#[]⟩:aT).size<=maxLen:=by unfold maxLen;decide
def Pq {T:List Tok}{w4:aj}(h0:eU b bm lv sz T w i)(h:eU b bm lv sz T w4 j)(ho:ai (aN b) w w4)(hR:dY w4 w (xK #[a0,a1,a2,a3] t))
 (hW:W'=((((w4.setCell ⟨w.heap.size,0,none⟩ v0).setCell ⟨w.heap.size,1,none⟩ v1).setCell ⟨w.heap.size,2,none⟩ v2).setCell ⟨w.heap.size,3,none⟩ v3).alloc o):
 eU b bm lv sz T W' j/\ai (aN b) w W'/\W'.heap[w.heap.size]? =some (xK #[v0,v1,v2,v3] t):=by
 obtain⟨h1,h2⟩:=Pp h0 h ho bq v0 v1 v2 v3;have h3:=dM (o:=0) hR v0 v1 v2 v3;simp only[Nat.zero_add]at h3;subst hW;refine⟨h1.below bO,h2.alloc _,(Qcb _ _ _ (Qaa.1 h3).1).trans ?_⟩;simpa using h3
def xp {T:List Tok}{w4:aj}(h0:eU b bm lv sz T w i)(h:eU b bm lv sz T w4 j)(ho:ai (aN b) w w4)(hR:dY w4 w (xK #[a0,a1,a2,a3] t))
 (hW:W'=(((w4.setCell ⟨w.heap.size,0,none⟩ v0).setCell ⟨w.heap.size,1,none⟩ v1).setCell ⟨w.heap.size,2,none⟩ v2).setCell ⟨w.heap.size,3,none⟩ v3):
 eU b bm lv sz T W' j/\ai (aN b) w W'/\W'.heap[w.heap.size]? =some (xK #[v0,v1,v2,v3] t):=by
 obtain⟨h1,h2⟩:=Pp h0 h ho bq v0 v1 v2 v3;have h3:=dM (o:=0) hR v0 v1 v2 v3;simp only[Nat.zero_add]at h3;subst hW;exact⟨h1,h2,by simpa using h3⟩
def E0(b bm:Nat)(lv:an)(sz:Int)(T:List Tok)(oO:qS T)(k:Nat)(HC:CN b bm lv sz T k):IH b bm lv sz T (k+1):=by
 intro i x r w cm hp;have cw:=cm.lt;obtain⟨t,ht⟩:∃t,T[i]? =some t:=by
  cases hq:T[i]? with
  |some t=>exact⟨t,rfl⟩
  |none=>
   rw[List.drop_of_length_le (List.getElem?_eq_none_iff.1 hq)]at hp;simp[jr]at hp
 have hi:=(Qad.1 ht).1;have fG:=Qaf ht;obtain⟨qa,QE,htn,_⟩:=oO t fG;have ni:=cm.kinds t fG;have QM:=drop_cons ht;rw[QM]at hp;unfold jr at hp;dsimp only at hp;have Uc:t.kind≠4:=by
  intro h4;rw[if_neg (by omega),if_neg (by omega),if_neg (by omega)]at hp;cases hp
 have Gi:∀s,dL (T.drop i) s=false:=λs=>by rw[QM];simp[dL,Uc]
 have As:Hd (∀W s,aq w W->_):=λW s hb=>KD b bm lv sz T W i (cm.below hb) s (Gi _);have Lg:=fV (w:=w) (λW hb=>KC b bm lv sz T W i (cm.below hb) t ht);have fu:=af cm;have Yz:=af QM;have HP:=af hp;have U0:=af (show(bL t.s).size<=maxLen by rw[jF];unfold maxLen;omega);have Gj:=cm.few;have GM:b≠w.heap.size:=by omega
 clear cm hp QM Gi ht fG;go_enter func310,ntmps310;go_wp2_with fail;refine cG (As.o _ _ bO) λw1 aC=> ?_;have aO:=af ((Bx.dR w (GJ 0 0 ⟨#[]⟩ (xL none 0 0))).below aC);clear aC;go_wp2_with fail;refine cG (As.o _ _ aO.o.1) λw2 aY=> ?_;have aL:=af (aO.o.below aY);clear aY;go_wp2_with fail;refine cG (Lg.o _ aL.o.1) λw3 bG=> ?_;have bI:=af (aL.o.below bG);clear bG;have iq:=af (fu.o.below bI.o.1);obtain⟨p0,p1,p2,p3⟩:=ae iq.o.box;have f1:=ag iq.o.box 1;obtain⟨g0,g1,g2,g3⟩:=ae (bI.o.bJ rfl);obtain⟨y0,y1,y2,y3⟩:=ic (bI.o.bJ rfl);have rS:w.heap.size<w3.heap.size:=by have:=bI.o.bY;simp at this;omega
 have qg8:b<w3.heap.size:=iq.o.lt;have qg9:b≠w3.heap.size:=by omega
 have qd6:w.heap.size≠w3.heap.size:=by omega
 have Sf:=af (iq.o.next hi);have mC:Hd (ai (aN b) w (w3.setCell ⟨b,1,none⟩ (xI ((i:Int)+1)))):=(ai.ao bI.o.1).trans Sf.o.2;have Ud:Hd ((w3.setCell ⟨b,1,none⟩ (xI ((i:Int)+1))).heap[w.heap.size]? =some (GJ 0 0 ⟨#[]⟩ (xL none 0 0))):=(Qag _ _ _ _ (by show w.heap.size≠b;omega)).trans (bI.o.bJ rfl);unfold ke;have mj:=af QE;have rU:=af htn;clear QE htn;obtain⟨kd,NL⟩:=fx ((t.kind:Int));have U1:=af NL;rw[NL];clear NL;have bD:t.kind=1\/t.kind=2\/t.kind=3:=by omega
 rcases bD with h1|h1|h1
 .obtain rfl:kd=1:=by have:=U1.o;omega
  have HX:=af (show x= .mk 1 t.n (bL []) []/\r=T.drop (i+1)by have h:=HP.o;rw[if_pos h1]at h;simp at h;exact⟨h.1.symm,h.2.symm⟩);clear h1 U1 ni Uc;go_wp2_with fail;obtain⟨W',iL⟩:=cM ((((((w3.setCell ⟨b,1,none⟩ (xI ((i:Int)+1))).setCell ⟨w.heap.size,0,none⟩ (xI 1)).setCell ⟨w.heap.size,1,none⟩ (xI t.n)).setCell ⟨w.heap.size,2,none⟩ (xS ⟨#[]⟩)).setCell ⟨w.heap.size,3,none⟩ (xL none 0 0)).alloc (xK #[xI 1,xI t.n,xS (bL t.s),xI t.at_] 346));rw[<-iL];obtain⟨k1,k2,k3⟩:=Pq fu.o Sf.o.1 mC.o Ud.o iL;obtain⟨c0,c1,c2,c3⟩:=ae k3;exact Qae (v:= .agg #[xI 1,xI t.n,xS ⟨#[]⟩,xL none 0 0]) (by simp[results,results310,go_sem,c0,c1,c2,c3]) rfl (show l8 _ _ _ _ _ _ _ _ _ _ from⟨_,i+1,rfl,by rw[HX.o.1];exact vz _ _ _ V6,k1,HX.o.2,k2⟩)
 .obtain rfl:kd=2:=by have:=U1.o;omega
  have HX:=af (show x= .mk 2 0 (bL t.s) []/\r=T.drop (i+1)by have h:=HP.o;rw[if_neg (by omega),if_pos h1]at h;simp at h;exact⟨h.1.symm,h.2.symm⟩);clear h1 U1 ni Uc;go_wp2_with fail;obtain⟨W',iL⟩:=cM ((((((w3.setCell ⟨b,1,none⟩ (xI ((i:Int)+1))).setCell ⟨w.heap.size,0,none⟩ (xI 2)).setCell ⟨w.heap.size,1,none⟩ (xI 0)).setCell ⟨w.heap.size,2,none⟩ (xS (bL t.s))).setCell ⟨w.heap.size,3,none⟩ (xL none 0 0)).alloc (xK #[xI 2,xI t.n,xS (bL t.s),xI t.at_] 346));rw[<-iL];obtain⟨k1,k2,k3⟩:=Pq fu.o Sf.o.1 mC.o Ud.o iL;obtain⟨c0,c1,c2,c3⟩:=ae k3;exact Qae (v:= .agg #[xI 2,xI 0,xS (bL t.s),xL none 0 0]) (by simp[results,results310,go_sem,c0,c1,c2,c3]) rfl (show l8 _ _ _ _ _ _ _ _ _ _ from⟨_,i+1,rfl,by rw[HX.o.1];exact vz _ _ _ U0.o,k1,HX.o.2,k2⟩)
 .obtain rfl:kd=3:=by have:=U1.o;omega
  have fI:=HP.o;rw[if_neg (by omega),if_neg (by omega),if_pos h1]at fI;have jT:=af fI;have oR:Hd (∀W,_):=λW=>Bc (bL t.s) W;clear h1 U1 ni Uc fI;have har:=D3 t.s;go_wp2_with fail;obtain⟨W4,lR⟩:=cM ((w3.setCell ⟨b,1,none⟩ (xI ((i:Int)+1))).alloc (xK #[xI 3,xI t.n,xS (bL t.s),xI t.at_] 346));rw[<-lR];have jV:=af (show eU b bm lv sz T W4 (i+1)by rw[lR];exact Sf.o.1.below bO);have A0:=af (show ai (aN b) w W4 by rw[lR];exact mC.o.alloc _);have HZ4:=af (show dY W4 w (GJ 0 0 ⟨#[]⟩ (xL none 0 0))by rw[lR];exact(Qcb _ _ _ (Qaa.1 Ud.o).1).trans Ud.o);have JY:=af (show dY W4 w3 (xK #[xI 3,xI t.n,xS (bL t.s),xI t.at_] 346)by
   rw[lR];have h:=Qbh (w3.setCell ⟨b,1,none⟩ (xI ((i:Int)+1))) (xK #[xI 3,xI t.n,xS (bL t.s),xI t.at_] 346);rw[show(w3.setCell ⟨b,1,none⟩ (xI ((i:Int)+1))).heap.size=w3.heap.size by simp[World.setCell]]at h;exact h);clear lR p0 p1 p2 p3 f1 g0 g1 g2 g3 y0 y1 y2 y3 As Lg aO aL;refine dJ (oR.o _) ?_;obtain⟨m0,m1,m2,m3⟩:=ae JY.o;rw[lU];obtain⟨ar,qa9⟩:=fx (dq t.s);rw[qa9]at jT har⊢;clear qa9 oR;have qha:w.heap.size≠w3.heap.size:=qd6;by_cases Yt:0<ar
  .have hz:(0:Int)<(ar:Int):=by omega
   by_cases tY:dL (T.drop (i+1)) [40]=true
   .have NX:=af (EY b bm lv sz T W4 (i+1) jV.o ⟨#[40]⟩ tY);have HX:=af (show∃l,eO k ar (T.drop (i+1+1))=some (l,r)/\x= .mk 6 0 (bL t.s) l by
     have h:=jT.o;rw[if_pos ⟨Yt,tY⟩,List.drop_drop]at h;split at h
     .cases h
     .rename_i l r' hq;simp at h;exact⟨l,by rw[<-h.2];exact hq,h.1.symm⟩);clear tY jT HP;go_wp2_with fail;refine(NX.o).mono ?_;rintro e w6⟨rfl,h61,JI⟩;have Gw:=af h61;have qhb:=af JI;have UT:Hd (ai (aN b) w w6):=A0.o.trans JI;have Vg:Hd (dY w6 w (GJ 0 0 ⟨#[]⟩ (xL none 0 0))):=JI.at_ HZ4.o (by show¬(w.heap.size=b);omega);have HP6:Hd (dY w6 w3 (xK #[xI 3,xI t.n,xS (bL t.s),xI t.at_] 346)):=JI.at_ JY.o (by show¬(w3.heap.size=b);omega);clear h61 JI m0 m1 m2 m3;obtain⟨m0,m1,m2,m3⟩:=ae HP6.o;obtain⟨l,vi,zU⟩:=HX.o;have hs6:w.heap.size<w6.heap.size:=(Qaa.1 Vg.o).1;have QJ:=af (HC ar (i+1+1) l r w6.drew Yt har (Gw.o.below (w':=w6.drew) ⟨rfl,rfl,rfl,bq,λ_ _=>rfl⟩) vi);have HXX:=af zU;clear vi zU HX;go_upto_region 17 with fail;go_region_law(first
     |(go_simp;go_at_call 328;refine QJ.o.mono ?_;rintro e w7⟨v,j,rfl,bo,QH,hr7,QI⟩;obtain⟨za,zc,rfl,_⟩:=bo.open_;have eE:=af bo;have tS:=af QH;have Yw:=af hr7;have HO7:Hd (ai (aN b) w w7):=UT.o.drew.trans QI;have Y4:Hd (dY w7 w (GJ 0 0 ⟨#[]⟩ (xL none 0 0))):=QI.at_ (w:=w6.drew) Vg.o (by show¬(w.heap.size=b);omega);have HP7:Hd (dY w7 w3 (xK #[xI 3,xI t.n,xS (bL t.s),xI t.at_] 346)):=QI.at_ (w:=w6.drew) HP6.o (by show¬(w3.heap.size=b);omega);have r2:=(ae HP7.o).2.2.1;have c0:=(ae Y4.o).1;have c1:=(ae Y4.o).2.1;have c2:=(ae Y4.o).2.2.1;have c3:=(ae Y4.o).2.2.2;obtain⟨z0,z1,z2,z3⟩:=ic Y4.o;clear bo QH hr7 QI));all_goals
     go_wp2_with fail;obtain⟨W',iL⟩:=cM (((((w7.setCell ⟨w.heap.size,0,none⟩ (xI 6)).setCell ⟨w.heap.size,1,none⟩ (xI 0)).setCell ⟨w.heap.size,2,none⟩ (xS (bL t.s))).setCell ⟨w.heap.size,3,none⟩ (xL za l.length zc)));rw[<-iL];obtain⟨k1,k2,k3⟩:=xp fu.o tS.o HO7.o Y4.o iL;obtain⟨d0,d1,d2,d3⟩:=ae k3;have uf:=af (show ab (fp w) W' (xL za l.length zc) l by
      rw[iL];have e0:Ev (fp w6.drew) w7 (fp w) w7:=Ev.eG w7 λi hi=>by have h1:i<w.heap.size:=hi;show i<w6.heap.size;omega
      exact eE.o.ev ((((e0.setCell (p:=⟨w.heap.size,0,none⟩) (.inl (by show w.heap.size<w6.heap.size;omega)) _).setCell (p:=⟨w.heap.size,1,none⟩) (.inl (by show w.heap.size<w6.heap.size;omega)) _).setCell (p:=⟨w.heap.size,2,none⟩) (.inl (by show w.heap.size<w6.heap.size;omega)) _).setCell (p:=⟨w.heap.size,3,none⟩) (.inl (by show w.heap.size<w6.heap.size;omega)) _));exact Qae (v:= .agg #[xI 6,xI 0,xS (bL t.s),xL za l.length zc]) (by simp[results,results310,go_sem,d0,d1,d2,d3]) rfl (show l8 _ _ _ _ _ _ _ _ _ _ from⟨_,j,rfl,by rw[HXX.o];exact yZ uf.o U0.o,k1,Yw.o,k2⟩)
   .have Y5:dL (T.drop (i+1)) [40]=false:=by simpa using tY
    have Wy:=af (KD b bm lv sz T W4 (i+1) jV.o ⟨#[40]⟩ Y5);have HX:=af (show x= .mk 3 0 (bL t.s) []/\r=T.drop (i+1)by have h:=jT.o;rw[if_neg (λh=>tY h.2)]at h;simp at h;exact⟨h.1.symm,h.2.symm⟩);clear tY Y5 jT HP;go_wp2_with fail;refine cG (Wy.o) λw6 sj=> ?_;have wB:=af (jV.o.below sj);have HOO:Hd (ai (aN b) w w6):=A0.o.trans (ai.ao sj);have Xt:Hd (dY w6 w (GJ 0 0 ⟨#[]⟩ (xL none 0 0))):=(sj.block _ (Qaa.1 HZ4.o).1).trans HZ4.o;have YF:Hd (dY w6 w3 (xK #[xI 3,xI t.n,xS (bL t.s),xI t.at_] 346)):=(sj.block _ (Qaa.1 JY.o).1).trans JY.o;clear sj m0 m1 m2 m3;obtain⟨m0,m1,m2,m3⟩:=ae YF.o;obtain⟨c0,c1,c2,c3⟩:=ae Xt.o;obtain⟨z0,z1,z2,z3⟩:=ic Xt.o;go_wp2_with fail;obtain⟨W',iL⟩:=cM (((((w6.setCell ⟨w.heap.size,0,none⟩ (xI 3)).setCell ⟨w.heap.size,1,none⟩ (xI 0)).setCell ⟨w.heap.size,2,none⟩ (xS (bL t.s))).setCell ⟨w.heap.size,3,none⟩ (xL none 0 0)));rw[<-iL];obtain⟨k1,k2,k3⟩:=xp fu.o wB.o HOO.o Xt.o iL;obtain⟨d0,d1,d2,d3⟩:=ae k3;exact Qae (v:= .agg #[xI 3,xI 0,xS (bL t.s),xL none 0 0]) (by simp[results,results310,go_sem,d0,d1,d2,d3]) rfl (show l8 _ _ _ _ _ _ _ _ _ _ from⟨_,i+1,rfl,by rw[HX.o.1];exact vz _ _ _ U0.o,k1,HX.o.2,k2⟩)
  .have HX:=af (show x= .mk 3 0 (bL t.s) []/\r=T.drop (i+1)by have h:=jT.o;rw[if_neg (λh=>Yt h.1)]at h;simp at h;exact⟨h.1.symm,h.2.symm⟩);have hz:¬(0:Int)<(ar:Int):=by omega
   have wB:=jV;have HOO:=A0;have Xt:=HZ4;clear jT HP;obtain⟨c0,c1,c2,c3⟩:=ae Xt.o;obtain⟨z0,z1,z2,z3⟩:=ic Xt.o;go_wp2_with fail;obtain⟨W',iL⟩:=cM (((((W4.setCell ⟨w.heap.size,0,none⟩ (xI 3)).setCell ⟨w.heap.size,1,none⟩ (xI 0)).setCell ⟨w.heap.size,2,none⟩ (xS (bL t.s))).setCell ⟨w.heap.size,3,none⟩ (xL none 0 0)));rw[<-iL];obtain⟨k1,k2,k3⟩:=xp fu.o wB.o HOO.o Xt.o iL;obtain⟨d0,d1,d2,d3⟩:=ae k3;exact Qae (v:= .agg #[xI 3,xI 0,xS (bL t.s),xL none 0 0]) (by simp[results,results310,go_sem,d0,d1,d2,d3]) rfl (show l8 _ _ _ _ _ _ _ _ _ _ from⟨_,i+1,rfl,by rw[HX.o.1];exact vz _ _ _ U0.o,k1,HX.o.2,k2⟩)
def Ml(b bm:Nat)(lv:an)(sz:Int)(T:List Tok)(w:aj)(l:List ax)(a:dC)(q c:Nat)(C:List ax->Nat->Prop)(wr:aj):Prop:=
 ∃(kids rest:List ax)(j:Nat),kids.length=q/\kids++rest=l/\aP (fp w) w.heap.size 287 wr (xL a q c) kids/\eU b bm lv sz T wr j/\ai (aN b) w wr/\C rest j
def CO(b bm:Nat)(lv:an)(sz:Int)(T:List Tok)(k:Nat)(HE:∀m,m<k->EZ b bm lv sz T m):CN b bm lv sz T k:=by
 intro n i l r w tN hn3 cm RY;obtain⟨i0,dz,dX,cY,dA⟩:=info_parts Bf;have cw:=cm.lt;have UU:Hd (∀m,m<k->EZ b bm lv sz T m):=HE;have H0:Hd (Ml b bm lv sz T w l none 0 0 (Og T n r k 0) w):=⟨[],l,i,rfl,rfl,aP.nil _ _ _ _,cm,ai.refl _ _, .inl ⟨rfl,k,bq,RY⟩⟩;have fu:=af cm;go_enter func328,ntmps328;go_wp2;go_loopg [5,6,8]n(λg r5 _ iv wr=>∃(q c:Nat)(a:dC),q<=n/\g=n-q/\iv=xI q/\r5=xL a q c/\Hd (Ml b bm lv sz T w l a q c (Og T n r k q) wr));case atStart=>exact⟨0,0,none,Qbf _,rfl,rfl,rfl,H0⟩
 case round=>
  obtain⟨q,c,a,hq,rfl,rfl,rfl,HL⟩:=hrel;by_cases aX:q<n
  .have Wz:(q:Int)<(n:Int):=by omega
   go_upto_if 12 with fail;go_cut [](λwx=>Hd (Ml b bm lv sz T w l a q c (VG T n r k q) wx));case first=>
    obtain⟨kids,rest,j,rz,K6,hacc,ki,kE,hC⟩:=HL.o;by_cases Y6:0<q
    .have qhc:(0:Int)<(q:Int):=by omega
     have UW:dL (T.drop j) [44]=true/\∃m,m<=k/\eO m (n-q) (T.drop (j+1))=some (rest,r):=by
      rcases hC with⟨h1,_⟩|⟨_,_,h1,h2⟩|⟨h1,_⟩
      .omega
      .exact⟨h1,h2⟩
      .omega
     have xO:=af (KE b bm lv sz T wr j ki ⟨#[44]⟩ UW.1);have HM:=af UW.2;have nj:=af hacc;have mi:=af kE;have DF:=af rz;have RZ:=af K6;go_wp2_with fail;refine(xO.o).mono ?_;rintro e w1⟨⟨v1,rfl⟩,h1,h2⟩;have rC:=af h1;have oP:=af h2;go_wp2;go_meet;exact(show Ml _ _ _ _ _ _ _ _ _ _ _ _ from⟨kids,rest,j+1,DF.o,RZ.o,nj.o.only oP.o (λi hi=>by have:i=b:=hi;exact⟨by show i<w.heap.size;omega,by omega⟩),rC.o,mi.o.trans oP.o,HM.o⟩)
    .obtain rfl:q=0:=by omega
     have UW:∃m,m<=k/\eO m (n-0) (T.drop j)=some (rest,r):=by
      rcases hC with⟨_,h1⟩|⟨h1,_⟩|⟨h1,_⟩
      .exact h1
      .omega
      .omega
     have HM:Hd (Ml b bm lv sz T w l a 0 c (VG T n r k 0) wr):=⟨kids,rest,j,rz,K6,hacc,ki,kE,UW⟩;go_wp2;go_meet;exact HM
   case rest=>
    obtain⟨kids,rest,j,rz,K6,hacc,ki,kE,m,Cb,RY⟩:=Hd.o hcut;obtain⟨m',e,r1,l',rfl,hex,rfl,hC⟩:=sD RY (by omega);obtain⟨yk,yn,ys,yl⟩:=e;have bt:=af (UU.o m' (by omega) 1 j (.mk yk yn ys yl) r1 wc (by omega) (by omega) ki hex);have od:=hacc.dU;have qhd:=kE.size;have DF:=af rz;have RZ:=af K6;have nj:=af hacc;have mi:=af kE;have sd:=af hC;have zX:=af od;go_wp2_with fail;refine(bt.o).mono ?_;rintro e w1⟨_,jj,rfl,⟨cs,rfl,bU⟩,oh,se,gX⟩;obtain⟨av,rfl,bo,j6⟩:=cC.iff.1 bU;obtain⟨ya,yc,rfl,_⟩:=bo.open_;have s1:=gX.size;have fH:Hd (aA.rep (α:=ax) (bB (xL a q c) (fp w)) w1 [xI yk,xI yn,xS ys,xL ya yl.length yc] (ax.mk yk yn ys yl)):=aA.ev (α:=ax) bU (Ev.eG w1 (λi hi=>by
     rcases hi with hi|hi
     .have h1:i<w.heap.size:=hi;show i<wc.heap.size;omega
     .exact(zX.o i hi).2));have qK:=af oh;have pZ:=af se;have oP:Hd (ai (aN b) w w1):=mi.o.trans gX;have Dq:=af (nj.o.only gX (λi hi=>by have:i=b:=hi;exact⟨by show i<w.heap.size;omega,by omega⟩));go_wp2_with(at_builtin;refine aZ (α:=ax) rfl _ _ _ rfl (fp w) w.heap.size 287 i0 _ 56 underlying285 dz dX cY dA rfl (by decide) (.slice a q c) kids rfl (Dq.o.alloc _) (λ_=>True) _ _ (.mk yk yn ys yl) rfl (kW _ _ _ _ 4 rfl rfl trivial) (aA.ev (α:=ax) fH.o ((Ev.refl _ _).alloc _)) (by rw[DF.o];unfold maxLen;omega) (by rw[DF.o];omega) (by simp;omega) ?_;rw[DF.o];intro a2 c2 w2 bu dr aY;have cL:=af bu;have aL:=af aY;clear bu dr aY);go_roundg(n-(q+1));case measure=>omega
    case rel=>
     refine⟨q+1,c2,a2,by omega,rfl,by go_num,rfl,?_⟩;have hO2:ai (aN b) w w2:=(oP.o.alloc _).cP aL.o bq;refine(show Ml _ _ _ _ _ _ _ _ _ _ _ _ from⟨kids++[.mk yk yn ys yl],l',jj,by simp[DF.o],by rw[<-RZ.o];simp,cL.o,?_,hO2,?_⟩)
     .exact fu.o.step hO2 ((aL.o.block b cw).trans ((Qcb w1 _ b (by omega)).trans qK.o.box)) qK.o.le
     .have se:=pZ.o;rcases sd.o with⟨h1,h2,h3,h4⟩|⟨h1,h2,h3⟩
      .subst se;exact .inr (.inr ⟨by omega,h2,h3,by rw[h4,List.drop_drop]⟩)
      .subst se;rw[List.drop_drop]at h3;exact .inr (.inl ⟨by omega,by omega,h2,m',by omega,by rw[show n-(q+1)=n-q-1 from by omega];exact h3⟩)
  .have Wz:¬(q:Int)<(n:Int):=by omega
   obtain⟨kids,rest,j,rz,K6,hacc,ki,kE,hC⟩:=HL.o;have UW:rest=[]/\dL (T.drop j) [41]=true/\r=T.drop (j+1):=by
    rcases hC with⟨h1,_⟩|⟨_,h2,_⟩|⟨_,h1,h2,h3⟩
    .omega
    .omega
    .exact⟨h1,h2,h3⟩
   obtain⟨rfl,h41,hr⟩:=UW;rw[List.append_nil]at K6;have xO:=af (KE b bm lv sz T wr j ki ⟨#[41]⟩ h41);have DF:=af rz;have RZ:=af K6;have nj:=af hacc;have mi:=af kE;have R4:=af hr;go_wp2_with fail;refine(xO.o).mono ?_;rintro e w1⟨⟨v1,rfl⟩,h1,h2⟩;have rC:=af h1;have Dq:=af (nj.o.only h2 (λi hi=>by have:i=b:=hi;exact⟨by show i<w.heap.size;omega,by omega⟩));have oP:Hd (ai (aN b) w w1):=mi.o.trans h2;go_wp2;go_ret;exact(show Po _ _ _ _ _ _ _ _ _ _ from⟨_,j+1,rfl,by rw[<-RZ.o];exact Dq.o.slice (λi hi=>hi),rC.o,R4.o,oP.o⟩)
def V7(b bm:Nat)(lv:an)(sz:Int)(T:List Tok)(w:aj)(E:Nat)(C:ax->Nat->Prop)(wr:aj):Prop:=
 ∃(ck cn:Int)(cs:aT)(cl:List ax)(a:dC)(c j:Nat),wr.heap[E]? =some (xK #[xI ck,xI cn,xS cs,xL a cl.length c] 287)/\cC (D4 w E) wr [xI ck,xI cn,xS cs,xL a cl.length c] (.mk ck cn cs cl)/\eU b bm lv sz T wr j/\ai (aN b) w wr/\
  wr.heap[w.heap.size]? =some (xK iN 287)/\C (.mk ck cn cs cl) j
def Tc {T:List Tok}{WD:World}{jj:Nat}{ck cn fk fn:Int}{cs fs:ByteArray}{cl fl:List ax}{c:Nat}{ts:List UInt8}
 (cw:b<w.heap.size)(fu:eU b bm lv sz T w i)(mi:ai (aN b) w wr)(DG:ai (aN b) wr WD)(fQ:ai (aN b) WD w2)
 (UX:w2.heap[w1.heap.size]? =some (.cells #[.int .i64 ck, .int .i64 cn, .string cs, .slice a cl.length c] 287 (0,0)))
 (TV:WD.heap[w.heap.size]? =some (.cells #[.int .i64 0, .int .i64 0, .string ⟨#[]⟩, .slice none 0 0] 287 (0,0)))
 (WB:cC (D4 w w1.heap.size) WD [.int .i64 ck, .int .i64 cn, .string cs, .slice a cl.length c] (.mk ck cn cs cl))
 (fH:cC (fp WD.drew) w2 [.int .i64 fk, .int .i64 fn, .string fs, .slice ya fl.length yc] (.mk fk fn fs fl))(JL:eU b bm lv sz T w2 jj)
 (dB:w.heap.size+1<=w1.heap.size)(hE:w1.heap.size<wr.heap.size)(hsD:wr.heap.size<=WD.heap.size)(s2:WD.heap.size<=w2.heap.size)(xM:ts.length<=200)(C:ax->Nat->Prop)(hC:C (.mk 4 0 (bL ts) [.mk ck cn cs cl, .mk fk fn fs fl]) jj):
 V7 b bm lv sz T w w1.heap.size C (((((w2.setCell ⟨w1.heap.size,0,none⟩ (.int .i64 4)).setCell ⟨w1.heap.size,1,none⟩ (.int .i64 0)).setCell ⟨w1.heap.size,2,none⟩ (.string (bL ts))).setCell ⟨w1.heap.size,3,none⟩ (.slice (some ⟨w2.heap.size,0,none⟩) 2 2)).alloc (.cells #[.int .i64 ck, .int .i64 cn, .string cs, .slice a cl.length c, .int .i64 fk, .int .i64 fn, .string fs, .slice ya fl.length yc] 287)):=by
 obtain⟨W3,lK⟩:∃W3:World,W3=(((w2.setCell ⟨w1.heap.size,0,none⟩ (.int .i64 4)).setCell ⟨w1.heap.size,1,none⟩ (.int .i64 0)).setCell ⟨w1.heap.size,2,none⟩ (.string (bL ts))).setCell ⟨w1.heap.size,3,none⟩ (.slice (some ⟨w2.heap.size,0,none⟩) 2 2):=⟨_,rfl⟩;have xJ:W3.heap.size=w2.heap.size:=by rw[lK];simp
 have hE3:W3.heap[w1.heap.size]? =some (.cells #[.int .i64 4, .int .i64 0, .string (bL ts), .slice (some ⟨w2.heap.size,0,none⟩) 2 2] 287 (0,0)):=by
  rw[lK];have h0:=Qca w2 w1.heap.size 0 _ _ (.int .i64 4) UX;have h1:=Qca _ w1.heap.size 1 _ _ (.int .i64 0) h0;have h2:=Qca _ w1.heap.size 2 _ _ (.string (bL ts)) h1;exact Qca _ w1.heap.size 3 _ _ (.slice (some ⟨w2.heap.size,0,none⟩) 2 2) h2
 have Cc:ai (λi=>i=w1.heap.size) w2 W3:=by
  rw[lK];exact((((ai.refl (λi=>i=w1.heap.size) w2).setCell (p:=⟨w1.heap.size,0,none⟩) (.inl rfl) _).setCell (p:=⟨w1.heap.size,1,none⟩) (.inl rfl) _).setCell (p:=⟨w1.heap.size,2,none⟩) (.inl rfl) _).setCell (p:=⟨w1.heap.size,3,none⟩) (.inl rfl) _
 rw[<-lK];clear lK;generalize hK:(Obj.cells #[.int .i64 ck, .int .i64 cn, .string cs, .slice a cl.length c, .int .i64 fk, .int .i64 fn, .string fs, .slice ya fl.length yc] 287 (0,0))=K;have hOw:ai (aN b) w (W3.alloc K):=by
  have h1:=(mi.trans DG).trans fQ;have h2:ai (aN b) w W3:=h1.dc Cc (λi hi aX=>by omega);exact h2.alloc _
 have hKb:(W3.alloc K).heap[w2.heap.size]? =some (.cells (([.int .i64 ck, .int .i64 cn, .string cs, .slice a cl.length c]:List Value)++([.int .i64 fk, .int .i64 fn, .string fs, .slice ya fl.length yc]:List Value)).toArray 287 (0,0)):=by
  have h:=Qbh W3 K;rw[xJ]at h;rw[h,<-hK];rfl
 have WC:Ev (D4 w w1.heap.size) WD (D4 w w1.heap.size) (W3.alloc K):=
  ⟨((fQ.mono (λi hi=> .inl (by unfold aN at hi;omega))).trans (Cc.mono (λi hi=> .inr hi))).alloc _,λi hi=> .inl hi⟩;have WE:Ev (fp WD.drew) w2 (D4 w w1.heap.size) (W3.alloc K):=
  ⟨(Cc.mono (λi hi=>by show i<WD.heap.size;omega)).alloc _,λi hi=> .inl (by show i<WD.heap.size;rcases hi with h|h<;>omega)⟩;refine⟨4,0,bL ts,[.mk ck cn cs cl, .mk fk fn fs fl],some ⟨w2.heap.size,0,none⟩,2,jj,(Qcb W3 _ _ (by omega)).trans hE3,cC.iff.2 ⟨_,rfl,?_,by rw[jF];unfold maxLen;omega⟩,fu.step hOw ?_ JL.le,hOw,?_,hC⟩
 .exact yh (by unfold D4;omega) hKb (WB.Av WC) (fH.Av WE)
 .exact(Qcb W3 _ b (by omega)).trans ((Cc.block b (by omega) (by omega)).trans JL.box)
 .exact(Qcb W3 _ _ (by omega)).trans ((Cc.block _ (by omega) (by omega)).trans ((fQ.block _ (by omega) (by unfold aN;omega)).trans TV))
def sX(s:aT):Int:=match bP pL s with|some (.int _ v)=>v|_=>0
def II(s:aT):bP pL s=some (xI (sX s))\/(bP pL s=none/\sX s=0):=by
 unfold sX;cases hq:bP pL s with
 |none=>exact .inr ⟨rfl,rfl⟩
 |some v=>
  left;have hm:∃p∈pL,p.2.1=v:=by
   unfold bP at hq;rw[Option.map_eq_some_iff]at hq;obtain⟨p,h1,h2⟩:=hq;exact⟨p,List.mem_of_find?_eq_some h1,h2⟩
  obtain⟨p,hp,rfl⟩:=hm;simp only[pL,Qdf,List.not_mem_nil,or_false]at hp;rcases hp with rfl|rfl|rfl|rfl|rfl|rfl|rfl|rfl|rfl|rfl|rfl|rfl<;>rfl
def Pr(w:aj):(zeroValue 3).run prog w= .ok (xI 0) w:=by kernel_rfl
def E1(h:eP w b)(s:aT):(Instr.lookup 338 (.map (some b)) (xS s) false).run prog w= .ok (xI (sX s)) w:=by
 rcases II s with h1|⟨h1,h2⟩
 .exact cg.lookup nR .string mU (P:=prog) underlying338 underlying9 qp h s _ h1
 .rw[h2];exact cg.qc2 nR .string mU (P:=prog) underlying338 underlying9 qp h s _ (Pr w) h1
def zd(c:UInt8)(hc:c∈dF):sX (bL [c])=(cj [c]:Int):=by
 simp only[dF,Qdf,List.not_mem_nil,or_false]at hc;rcases hc with rfl|rfl|rfl|rfl|rfl|rfl|rfl|rfl|rfl|rfl|rfl<;>rfl
def IJ(b bm:Nat)(lv:an)(sz:Int)(T:List Tok)(oO:qS T)(k:Nat)(HT:IH b bm lv sz T k)(HE:∀m,m<k->EZ b bm lv sz T m):EZ b bm lv sz T (k+1):=by
 intro least i x r w vi hl5 cm hp;have cw:=cm.lt;obtain⟨e0,r0,htt,hmo⟩:∃e0 r0,jr k (T.drop i)=some (e0,r0)/\ow k least e0 r0=some (x,r):=by
  unfold ji at hp;cases hq:jr k (T.drop i)with
  |none=>rw[hq]at hp;cases hp
  |some q=>obtain⟨e0,r0⟩:=q;rw[hq]at hp;exact⟨e0,r0,rfl,hp⟩
 clear hp;have kD:aq w (w.alloc (xK iN 287)):=bO;have bA:=HT i e0 r0 _ (cm.below kD) htt;obtain⟨zk,zn,zs,zl⟩:=e0;have fu:=af cm;clear cm;have HMO:=af hmo;clear hmo;have bt:=af bA;clear bA;have iA:=af kD;clear kD;clear htt;go_enter func279,ntmps279;go_wp2_with fail;refine(bt.o).mono ?_;rintro e w1⟨_,j0,rfl,⟨cs,rfl,bU⟩,oh,se,gX⟩;obtain⟨av,rfl,bo,j6⟩:=cC.iff.1 bU;obtain⟨za,zc,rfl,_⟩:=bo.open_;have dB:=gX.size;simp at dB;have UY:Hd (dY w1 w (xK iN 287)):=(gX.block _ (by simp) (by unfold aN;omega)).trans (Qbh w _);have oP:Hd (ai (aN b) w w1):=((ai.refl _ w).alloc _).dc gX (λi hi _=>hi);have fH:=af bU;clear bU;have qK:=af oh;clear oh;have pZ:=af se;clear se;clear bo j6 gX;go_wp2;go_loopg [6,7]k(λg _ _ wr=>∃m:Nat,m<=k/\g=m/\Hd (V7 b bm lv sz T w w1.heap.size (λcur j=>ow m least cur (T.drop j)=some (x,r)) wr)/\w1.heap.size<wr.heap.size);case atStart=>
  refine⟨k,bq,rfl,?_,by simp⟩;have ub:aq w1 (w1.alloc (xK #[xI zk,xI zn,xS zs,xL za zl.length zc] 287)):=bO;refine(show V7 _ _ _ _ _ _ _ _ _ from⟨zk,zn,zs,zl,za,zc,j0,Qbh _ _,?_,qK.o.below ub,oP.o.alloc _,(ub.block _ (by omega)).trans UY.o,by {show ow k least _ (T.drop j0)=_;rw[<-pZ.o];exact HMO.o}⟩);exact fH.o.Av ⟨(ai.refl _ w1).alloc _,λi hi=>by
   rcases hi with h|h
   .exact .inl (by unfold fp;simp;omega)
   .exact .inr (by omega)⟩
 case round=>
  obtain⟨m,hm,rfl,HM,hE⟩:=hrel;obtain⟨ck,cn,cs,cl,a,c,j,QK,AU,ki,kE,hR,hC⟩:=HM.o;obtain⟨pk,pn,ps,pp,tY,JN,Xu,Vh⟩:=zb b bm lv sz T wr j ki;have Lg:=af Vh;have tZ:=af ki;have HEB:=af QK;have JM:=af AU;have mi:=af kE;have R4:=af hR;have HSP:=yg hC;clear Vh ki QK AU kE hR hC;go_wp2_with fail;refine cG (Lg.o) λw2 aY=> ?_;have aL:=af aY;have eB:=af (tZ.o.below aY);clear aY;obtain⟨p0,p1,p2,p3⟩:=ae eB.o.box;have f1:=ag eB.o.box 1;have qd5:=eB.o.lt;have s2:=aL.o.size;have qhe:b≠w2.heap.size:=by omega
  have oW:=λo=>E1 (eB.o.binds.below (w':=w2.alloc o) (dK.alloc bq o)) ps;have qaz:=λo=>E1 (w:=(w2.alloc o).drew) (eB.o.binds.below (w':=w2.alloc o) (dK.alloc bq o)) ps;unfold ke;go_upto_region 3 with fail;go_cut [7](λs7 wx=>s7=xI (sX ps)/\wx=(w2.alloc (xK #[xI pk,xI pn,xS ps,xI pp] 346)).drew);case first=>
   go_region;all_goals
    go_wp2;go_meet;exact⟨rfl,rfl⟩
  case rest=>
   obtain⟨rfl,hwc⟩:=hcut;obtain⟨W4,lR⟩:=cM (wc);subst lR;have eH:=af (show aq wr W4 by rw[hwc];exact(aL.o.alloc aL.o.size _).drew);have JY:=af (show dY W4 w2 (xK #[xI pk,xI pn,xS ps,xI pp] 346)by rw[hwc];exact Qbh w2 _);clear hwc p0 p1 p2 p3 f1 oW qaz;have jV:=af (tZ.o.below eH.o);obtain⟨p0,p1,p2,p3⟩:=ae jV.o.box;have f1:=ag jV.o.box 1;obtain⟨m0,m1,m2,m3⟩:=ae JY.o;have HE4:Hd (dY W4 w1 (xK #[xI ck,xI cn,xS cs,xL a cl.length c] 287)):=(eH.o.block _ hE).trans HEB.o;have Ud:Hd (dY W4 w (xK iN 287)):=(eH.o.block _ (by omega)).trans R4.o;have GS:Hd (cC (D4 w w1.heap.size) W4 [xI ck,xI cn,xS cs,xL a cl.length c] (.mk ck cn cs cl)):=JM.o.Av (Ev.ao eH.o);have A0:Hd (ai (aN b) w W4):=mi.o.trans (ai.ao eH.o);obtain⟨e0,e1,e2,e3⟩:=ae HE4.o;have hw4:w2.heap.size<W4.heap.size:=(Qaa.1 JY.o).1;rcases HSP with⟨rfl,rfl,Gi⟩|⟨m',t,r',f,r2,rfl,qa,ni,Yx,hex,QL⟩
   .have bD:(pk !=4)=true\/((pk !=4)=false/\sX ps<(least:Int)):=by
     by_cases h4:pk=4
     .right;refine⟨by simpa using h4,?_⟩;cases hq:T[j]? with
      |none=>have:=(Xu hq).1;omega
      |some t=>
       obtain⟨h1,_,h3⟩:=JN t hq;have ni:t.kind=4:=by omega
       obtain⟨c0,tX,DH⟩:=(oO t (Qaf hq)).2.2.2 ni;have hn:=Gi t _ (drop_cons hq);rw[h3,DH,zd c0 tX,<-DH];have:¬least<=cj t.s:=λh=>hn ⟨ni,h⟩;omega
     .left;simpa using h4
    obtain⟨r0,r1,r2,r3⟩:=ae Ud.o;obtain⟨g0,g1,g2,g3⟩:=ic Ud.o;have hRE:w.heap.size≠w1.heap.size:=by omega
    generalize sX ps=bv at*;clear Gi JN Xu tY;rcases bD with h1|⟨h1,h2⟩;all_goals
     go_wp2_with fail;obtain⟨W',iL⟩:=cM (((((W4.setCell ⟨w.heap.size,0,none⟩ (xI ck)).setCell ⟨w.heap.size,1,none⟩ (xI cn)).setCell ⟨w.heap.size,2,none⟩ (xS cs)).setCell ⟨w.heap.size,3,none⟩ (xL a cl.length c)));rw[<-iL];obtain⟨k1,k2,k3⟩:=xp fu.o jV.o A0.o Ud.o iL;obtain⟨d0,d1,d2,d3⟩:=ae k3;have uf:=af (show cC (fp w) W' [xI ck,xI cn,xS cs,xL a cl.length c] (.mk ck cn cs cl)by
      rw[iL];exact GS.o.Av (((((Ev.eG (M:=D4 w w1.heap.size) (N:=fp w) W4 (λi h=>by unfold fp at h;exact .inl (by omega))).setCell (p:=⟨w.heap.size,0,none⟩) (.inl (.inl bq)) _).setCell (p:=⟨w.heap.size,1,none⟩) (.inl (.inl bq)) _).setCell (p:=⟨w.heap.size,2,none⟩) (.inl (.inl bq)) _).setCell (p:=⟨w.heap.size,3,none⟩) (.inl (.inl bq)) _));exact Qae (v:= .agg #[xI ck,xI cn,xS cs,xL a cl.length c]) (by simp[results,results279,go_sem,d0,d1,d2,d3]) rfl (show l8 _ _ _ _ _ _ _ _ _ _ from⟨_,j,rfl,⟨_,rfl,uf.o⟩,k1,rfl,k2⟩)
   .obtain⟨t',Gm⟩:∃t',T[j]? =some t':=by
     rcases Nat.lt_or_ge j T.length with h|h
     .exact⟨_,Qac h⟩
     .rw[List.drop_eq_nil_of_le h]at qa;cases qa
    rw[drop_cons Gm]at qa;simp only[List.cons.injEq]at qa;obtain⟨rfl,rfl⟩:=qa;have xE:j<T.length:=(Qad.1 Gm).1;have fG:=Qaf Gm;obtain⟨c0,tX,DH⟩:=(oO t' fG).2.2.2 ni;obtain⟨h1,h2,h3⟩:=JN t' Gm;subst h3;have hbv:sX (bL t'.s)=(cj t'.s:Int):=by rw[DH];exact zd c0 tX
    have dT:=D5 t'.s;have YP:(pk !=4)=false:=by simp;omega
    rw[hbv];have K8:¬(cj t'.s:Int)<(least:Int):=by omega
    have xM:Hd (t'.s.length<=200):=(oO t' fG).1;have Gj:=jV.o.few;have UZ:=af hex;have WI:=af QL;clear hex QL fG Gm ni DH tX JN Xu tY h1 h2 hbv;generalize ub:cj t'.s=bb at*;go_upto_region 7 with fail;obtain⟨WD,TW⟩:=cM (W4.setCell ⟨b,1,none⟩ (xI ((j:Int)+1)));rw[<-TW];have HPD:=af (show eU b bm lv sz T WD (j+1)by rw[TW];exact(jV.o.next xE).1);have DG:=af (show ai (aN b) W4 WD by rw[TW];exact(jV.o.next xE).2);have HED:Hd (dY WD w1 (xK #[xI ck,xI cn,xS cs,xL a cl.length c] 287)):=DG.o.at_ HE4.o (by unfold aN;omega);have TV:Hd (dY WD w (xK iN 287)):=DG.o.at_ Ud.o (by unfold aN;omega);have YF:Hd (dY WD w2 (xK #[xI pk,xI pn,xS (bL t'.s),xI pp] 346)):=DG.o.at_ JY.o (by unfold aN;omega);have WB:Hd (cC (D4 w w1.heap.size) WD [xI ck,xI cn,xS cs,xL a cl.length c] (.mk ck cn cs cl)):=GS.o.Av ⟨DG.o.mono (λi hi=> .inl (by unfold aN at hi;omega)),λi hi=> .inl hi⟩;have hsD:=DG.o.size;clear TW p0 p1 p2 p3 f1 m0 m1 m2 m3 e0 e1 e2 e3;obtain⟨d0,d1,d2,d3⟩:=ae HED.o;obtain⟨m0,m1,m2,m3⟩:=ae YF.o;obtain⟨fk,fn,fs,fl⟩:=f;have bA:=HE m' (by omega) (bb+1) (j+1) (.mk fk fn fs fl) r2 WD.drew (by omega) (by omega) (HPD.o.below (w':=WD.drew) ⟨rfl,rfl,rfl,bq,λ_ _=>rfl⟩) UZ.o;rw[show((bb+1:Nat):Int)=(bb:Int)+1 from by omega]at bA;have zW:=af bA;clear bA;have z1:IntKind.i64.wrap ((bb:Int)+1)=(bb:Int)+1:=Qbe _ (by omega);go_region_law(first
     |(go_simp;go_at_call 279;refine zW.o.mono ?_;rintro e w5⟨_,jj,rfl,⟨cs2,rfl,bU⟩,qba,hr5,Xv⟩;obtain⟨av,rfl,bo,j6⟩:=cC.iff.1 bU;obtain⟨ya,yc,rfl,_⟩:=bo.open_;have s5:=Xv.size;simp at s5;have qD:Hd (ai (aN b) WD w5):=(ai.refl _ WD).drew.trans Xv;have Y7:Hd (dY w5 w1 (xK #[xI ck,xI cn,xS cs,xL a cl.length c] 287)):=qD.o.at_ HED.o (by unfold aN;omega);have Ue:Hd (dY w5 w2 (xK #[xI pk,xI pn,xS (bL t'.s),xI pp] 346)):=qD.o.at_ YF.o (by unfold aN;omega);have qhf:w1.heap.size<w5.heap.size:=by omega
       have qhg:w2.heap.size<w5.heap.size:=by omega
       have k0:=(ae Y7.o).1;have k1:=(ae Y7.o).2.1;have k2:=(ae Y7.o).2.2.1;have k3:=(ae Y7.o).2.2.2;have j2:=(ae Ue.o).2.2.1;have j2':∀o,(w5.alloc o).cell? ⟨w2.heap.size,2,none⟩=some (xS (bL t'.s)):=λo=>bF w5 o _ j2;have n0:∀o,(w5.alloc o).cell? ⟨w1.heap.size,0,none⟩=some (xI ck):=λo=>bF w5 o _ k0;have n1:∀o,(w5.alloc o).cell? ⟨w1.heap.size,1,none⟩=some (xI cn):=λo=>bF w5 o _ k1;have n2:∀o,(w5.alloc o).cell? ⟨w1.heap.size,2,none⟩=some (xS cs):=λo=>bF w5 o _ k2;have n3:∀o,(w5.alloc o).cell? ⟨w1.heap.size,3,none⟩=some (xL a cl.length c):=λo=>bF w5 o _ k3;obtain⟨fz0,fz1,fz2,fz3⟩:=ic Y7.o;have fH:=af bU;have qd7:=af qba;have GO:=af hr5;clear Xv bU bo j6 qba hr5));all_goals
     clear z1;go_wp2;go_roundg m';case measure=>omega
     case rel=>
      refine⟨m',by omega,rfl,?_,by simp;omega⟩;have tO:=Tc cw fu.o A0.o DG.o qD.o Y7.o TV.o WB.o fH.o qd7.o (by omega) (by omega) hsD s5 xM.o;exact(tO _ (by rw[<-GO.o];exact WI.o))
def V8(b bm:Nat)(lv:an)(sz:Int)(T:List Tok)(oO:qS T)(k:Nat):EZ b bm lv sz T k/\IH b bm lv sz T k/\CN b bm lv sz T k:=by
 induction k using Nat.strongRecOn with
 |ind k ih=>
  refine⟨?_,?_,CO b bm lv sz T k λm hm=>(ih m hm).1⟩
  .cases k with
   |zero=>intro least i x r w _ _ _ h;simp[ji]at h
   |succ k=>exact IJ b bm lv sz T oO k (ih k (by omega)).2.1 λm hm=>(ih m (by omega)).1
  .cases k with
   |zero=>intro i x r w _ h;simp[jr]at h
   |succ k=>exact E0 b bm lv sz T oO k (ih k (by omega)).2.2
def IK(p q r:Addr)(w:aj):
 CallsD prog 278 #[.pointer (some p), .pointer (some q), .pointer (some r)] .returning w λe u' w'=>e=xR (.tuple #[])/\u'= .returning/\w'=w:=by
 refine callsD_of_wpS func278 rfl λqd8 cs hu=> ?_;apply wpS_seq;apply wpS_region;simp[wpOpsS,go_sem,recoverD,hu,ntmps278,Exit.thenS];apply wpS_seq;apply wpS_region;simp[wpOpsS,go_sem,Exit.thenS];refine wpS_cond (t:=false) (by simp[Act.eval,Array.replicate]) ?_;simp only[Bool.false_eq_true,if_false];refine wpS_of_wp (wp_skip ?_);cases qd8;simp_all[bodyPostS,results,results278]
def tW(t:TypeId)(v:an):Obj:=xK #[v] t
def Mm {n:Nat}{xk xn:Int}{xs:aT}{xl:List ax}{xa:dC}{xc:Nat}(hb:b<w.heap.size)(ho:ai (aN b) w w1)(hR0:dY w1 w (GJ 0 0 ⟨#[]⟩ (xL none 0 0)))(hR1:cI w1 (w.heap.size+1) (tW 3 (xI 0)))(hR2:cI w1 (w.heap.size+1+1) (tW 4 (xB false)))
 (bo:ab (dP (fp w) w 3) w1 (xL xa xl.length xc) xl)(j6:xs.size<=maxLen)
 (hW:W'=(((((((((((w1.setCell ⟨w.heap.size,0,none⟩ (xI xk)).setCell ⟨w.heap.size,1,none⟩ (xI xn)).setCell ⟨w.heap.size,2,none⟩ (xS xs)).setCell ⟨w.heap.size,3,none⟩ (xL xa xl.length xc)).drewN n).setCell ⟨w.heap.size,0,none⟩ (xI xk)).setCell ⟨w.heap.size,1,none⟩ (xI xn)).setCell ⟨w.heap.size,2,none⟩ (xS xs)).setCell ⟨w.heap.size,3,none⟩ (xL xa xl.length xc)).setCell ⟨w.heap.size+1,0,none⟩ (xI 0)).setCell ⟨w.heap.size+1+1,0,none⟩ (xB true))):
 W'.heap[w.heap.size]? =some (GJ xk xn xs (xL xa xl.length xc))/\W'.heap[w.heap.size+1]? =some (tW 3 (xI 0))/\W'.heap[w.heap.size+1+1]? =some (tW 4 (xB true))/\bS (fp w) W' (.agg #[xI xk,xI xn,xS xs,xL xa xl.length xc]) (ax.mk xk xn xs xl)/\ai (aN b) w W':=by
 have s4:∀W:aj,ai (λi=>i=w.heap.size) W ((((W.setCell ⟨w.heap.size,0,none⟩ (xI xk)).setCell ⟨w.heap.size,1,none⟩ (xI xn)).setCell ⟨w.heap.size,2,none⟩ (xS xs)).setCell ⟨w.heap.size,3,none⟩ (xL xa xl.length xc)):=λW=>
  ((((ai.refl (λi=>i=w.heap.size) W).setCell (p:=⟨w.heap.size,0,none⟩) (.inl rfl) _).setCell (p:=⟨w.heap.size,1,none⟩) (.inl rfl) _).setCell (p:=⟨w.heap.size,2,none⟩) (.inl rfl) _).setCell (p:=⟨w.heap.size,3,none⟩) (.inl rfl) _;obtain⟨A,hA⟩:=cM ((((w1.setCell ⟨w.heap.size,0,none⟩ (xI xk)).setCell ⟨w.heap.size,1,none⟩ (xI xn)).setCell ⟨w.heap.size,2,none⟩ (xS xs)).setCell ⟨w.heap.size,3,none⟩ (xL xa xl.length xc));have oA:ai (λi=>i=w.heap.size) w1 A:=by rw[hA];exact s4 w1
 have gA:=dM (o:=0) hR0 (xI xk) (xI xn) (xS xs) (xL xa xl.length xc);simp only[Nat.zero_add]at gA;rw[<-hA]at gA hW;have oB:ai (λi=>i=w.heap.size) w1 (A.drewN n):=oA.drewN n;have gB:(A.drewN n).heap[w.heap.size]? =_:=gA;generalize A.drewN n=B at*;obtain⟨C,hC⟩:=cM ((((B.setCell ⟨w.heap.size,0,none⟩ (xI xk)).setCell ⟨w.heap.size,1,none⟩ (xI xn)).setCell ⟨w.heap.size,2,none⟩ (xS xs)).setCell ⟨w.heap.size,3,none⟩ (xL xa xl.length xc));have oC:ai (λi=>i=w.heap.size) w1 C:=by rw[hC];exact oB.trans (s4 B)
 have gC:=dM (o:=0) gB (xI xk) (xI xn) (xS xs) (xL xa xl.length xc);simp only[Nat.zero_add]at gC;rw[<-hC]at gC hW;have gC1:=oC.at_ hR1 (by omega);have gC2:=oC.at_ hR2 (by omega);obtain⟨D,hD⟩:=cM (C.setCell ⟨w.heap.size+1,0,none⟩ (xI 0));have oD:ai (λi=>i=w.heap.size+1) C D:=by rw[hD];exact(ai.refl (λi=>i=w.heap.size+1) C).setCell (p:=⟨w.heap.size+1,0,none⟩) (.inl rfl) _
 have gD1:=Qca C (w.heap.size+1) 0 _ _ (xI 0) gC1;rw[<-hD]at gD1 hW;have oE:ai (λi=>i=w.heap.size+1+1) D W':=by rw[hW];exact(ai.refl (λi=>i=w.heap.size+1+1) D).setCell (p:=⟨w.heap.size+1+1,0,none⟩) (.inl rfl) _
 have gE2:=Qca D (w.heap.size+1+1) 0 _ _ (xB true) (oD.at_ gC2 (by omega));rw[<-hW]at gE2;have qbb:ai (λi=>w.heap.size<=i/\i<w.heap.size+1+1+1) w1 W':=((oC.mono λi hi=>by have:i=w.heap.size:=hi;omega).trans (oD.mono λi hi=>by have:i=w.heap.size+1:=hi;omega)).trans (oE.mono λi hi=>by have:i=w.heap.size+1+1:=hi;omega);refine⟨?_,?_,?_,⟨_,rfl,cC.iff.2 ⟨_,rfl,bo.ev ⟨qbb.mono λi hi=> .inr ⟨hi.1,by omega⟩,λi hi=> .inl (.inl hi)⟩,j6⟩⟩,?_⟩
 .exact oE.at_ (oD.at_ (by simpa [GJ]using gC) (by omega)) (by omega)
 .exact oE.at_ (by simpa [tW]using gD1) (by omega)
 .simpa [tW]using gE2
 .exact ho.dc (qbb) λi hi aX=>by omega
def Ps(b bm:Nat)(lv:Value)(sz:Int)(T:List Tok)(oO:qS T)(x:ax)(hp:ji 60 1 T=some (x,[]))(w:World)(cm:eU b bm lv sz T w 0):
 xC 266 #[xP b] w λe w'=>∃v,e=xR (.tuple #[v,xI 0,xB true])/\bS (fp w) w' v x/\ai (aN b) w w':=by
 have DK:∀(fn:Fn)(first cap:Array Value)(w:World),(Instr.makeFunc fn first cap).run prog w= .ok (.func fn first cap) w:=λ_ _ _ _=>rfl;have HE:=fV (w:=w) (λW hb=>(V8 b bm lv sz T oO 60).1 1 0 x [] W (by omega) (by omega) (cm.below hb) (by simpa using hp));have cw:=cm.lt;have fu:=af cm;go_enter_defers func266,ntmps266;go_wp2_with fail;refine(HE.o _ (Bx.gI w _ _ _).1).mono ?_;rintro e w1⟨_,j,rfl,⟨cs,rfl,bU⟩,ki,hj,kE⟩;obtain⟨xk,xn,xs,xl⟩:=x;obtain⟨av,rfl,bo,j6⟩:=cC.iff.1 bU;obtain⟨xa,xc,rfl,_⟩:=bo.open_;have tZ:=af ki;have mi:Hd (ai (aN b) w w1):=((((ai.refl _ w).alloc _).alloc _).alloc _).trans kE;have eE:Hd (ab (dP (fp w) w 3) w1 (xL xa xl.length xc) xl):=bo.ev (Ev.eG w1 λi hi=>by
  show i<_;have:i<w.heap.size\/(w.heap.size<=i/\i<w.heap.size+3):=hi;simp;omega);have HJ:=af (show j=T.length by
  have h1:T.drop j=[]:=hj.symm;have h2:=ki.le;have h3:=congrArg List.length h1;simp at h3;omega);have Sg:Hd (w1.heap[w.heap.size]? =some (GJ 0 0 ⟨#[]⟩ (xL none 0 0))):=kE.at_ ((Bx.gI w _ (tW _ (xI 0)) (tW _ (xB false))).bJ rfl) (by unfold aN;omega);have pZ:Hd (w1.heap[w.heap.size+1]? =some (tW 3 (xI 0))):=kE.at_ ((Bx.gI w _ _ _).cE rfl) (by unfold aN;omega);have zY:Hd (w1.heap[w.heap.size+1+1]? =some (tW 4 (xB false))):=kE.at_ ((Bx.gI w _ _ _).gy rfl) (by unfold aN;omega);obtain⟨r0,r1,r2,r3⟩:=ae Sg.o;obtain⟨f0,f1,f2,f3⟩:=ic Sg.o;have s0:=ag pZ.o 0;have s1:=ag zY.o 0;have m0:w1.cell? ⟨w.heap.size+1,0,none⟩=some (xI 0):=by simp[World.cell?,pZ.o,tW]
 have m1:w1.cell? ⟨w.heap.size+1+1,0,none⟩=some (xB false):=by simp[World.cell?,zY.o,tW]
 obtain⟨q0,q1,q2,q3⟩:=ae tZ.o.box;have tN:b≠w.heap.size:=by omega
 have j8:∃a c,lv=xL a T.length c:=by obtain⟨a,c,h,_⟩:=tZ.o.cells;exact⟨a,c,h⟩
 obtain⟨lva,lvc,rfl⟩:=j8;have aX:¬(j:Int)<(T.length:Int):=by have:=HJ.o;omega
 go_wp2_with fail;go_quiet(fail);go_wp2_with fail;obtain⟨W',iL⟩:=cM ((((((((((((w1.setCell ⟨w.heap.size,0,none⟩ (xI xk)).setCell ⟨w.heap.size,1,none⟩ (xI xn)).setCell ⟨w.heap.size,2,none⟩ (xS xs)).setCell ⟨w.heap.size,3,none⟩ (xL xa xl.length xc)).drewN nq).setCell ⟨w.heap.size,0,none⟩ (xI xk)).setCell ⟨w.heap.size,1,none⟩ (xI xn)).setCell ⟨w.heap.size,2,none⟩ (xS xs)).setCell ⟨w.heap.size,3,none⟩ (xL xa xl.length xc)).setCell ⟨w.heap.size+1,0,none⟩ (xI 0)).setCell ⟨w.heap.size+1+1,0,none⟩ (xB true)));rw[<-iL];obtain⟨g0,g1,g2,g3,g4⟩:=Mm cw mi.o Sg.o pZ.o zY.o eE.o j6 iL;obtain⟨a0,a1,a2,a3⟩:=ae g0;have a4:W'.cell? ⟨w.heap.size+1,0,none⟩=some (xI 0):=by simp[World.cell?,g1,tW]
 have a5:W'.cell? ⟨w.heap.size+1+1,0,none⟩=some (xB true):=by simp[World.cell?,g2,tW]
 refine leaves_cons (f:=278) (args:= #[xP w.heap.size,xP (w.heap.size+1),xP (w.heap.size+1+1)]) (by simp) (by simp[go_sem]) ?_;refine(IK ⟨w.heap.size,0,none⟩ ⟨w.heap.size+1,0,none⟩ ⟨w.heap.size+1+1,0,none⟩ _).mono ?_;rintro e u' w''⟨rfl,rfl,rfl⟩;refine⟨.tuple #[.agg #[xI xk,xI xn,xS xs,xL xa xl.length xc],xI 0,xB true],by simp[results,results266,go_sem,a0,a1,a2,a3,a4,a5],⟨_,rfl,g3,g4⟩⟩
def ZM {l:List an}{o:Nat}{a b:an}(h:o+2<=l.length):((l.set o a).set (o+1) b).take (o+2)=l.take o++[a,b]:=by
 apply List.ext_getElem?;intro i;rw[List.getElem?_take,List.getElem?_append];have hl:(l.take o).length=o:=by simp;omega
 rw[hl];by_cases h1:i<o
 .rw[if_pos (by omega),if_pos h1];rw[List.getElem?_set_ne (by omega),List.getElem?_set_ne (by omega),List.getElem?_take,if_pos h1]
 .rw[if_neg h1];by_cases h2:i<o+2
  .rw[if_pos h2];have:i=o\/i=o+1:=by omega
   rcases this with rfl|rfl
   .rw[List.getElem?_set_ne (by omega),List.getElem?_set_self (by omega)];simp
   .rw[List.getElem?_set_self (by simp;omega)];simp
  .rw[if_neg h2];rw[List.getElem?_eq_none (by simp;omega)]
theorem dD.Pw {α:Type} [aA α](h4:aA.size α=2){n:Nat}{xs:List α}(h:dD M B t w n xs)(hk:xs.length=k)(hn:k<n){x:α}{a b:an}(hx:aA.rep (orM M B) w [a,b] x):
 dD M B t ((w.setCell ⟨B,k*2,none⟩ a).setCell ⟨B,k*2+1,none⟩ b) n (xs++[x]):=by
 obtain⟨cur,css,h1,h2,h3,h5,h6,h7⟩:=h;subst hk;rw[h4]at h2 h6;have E:Ev (orM M B) w (orM M B) ((w.setCell ⟨B,xs.length*2,none⟩ a).setCell ⟨B,xs.length*2+1,none⟩ b):=
  ((Ev.refl _ w).setCell (.inl (.inr rfl)) a).setCell (.inl (.inr rfl)) b;have hh:=Qca _ B (xs.length*2+1) _ _ b (Qca _ B (xs.length*2) _ _ a h1);refine⟨_,css++[[a,b]],hh,by rw[h4];simp[h2],by simp;omega,by simp[h5],?_,λi cs y hc hy=> ?_⟩
 .rw[h4];simp only[List.flatten_append,List.flatten_cons,List.flatten_nil,List.append_nil,Qda,Qcc,Qcd,h6,Array.toList_setIfInBounds];rw[show(xs.length+(0+1))*2=xs.length*2+2 from by omega];rw[ZM (by simp[h2];omega)]
 .by_cases hi:i<css.length
  .rw[Qbc hi]at hc;rw[Qbc (by omega)]at hy;exact aA.ev (h7 i cs y hc hy) E
  .rw[Qbd (by omega)]at hc;rw[Qbd (by omega)]at hy;rw[h5]at hc;have h0:i-xs.length=0:=by
    cases hq:i-xs.length with
    |zero=>rfl
    |succ q=>rw[hq]at hc;simp at hc
   rw[h0]at hc hy;simp at hc hy;subst hc hy;exact aA.ev hx E
def Mt:(Tryz.prog.info? 136).map (λi=>(i.zero,i.size,i.bytes))=some (some (.agg #[xI 0,xI 0]),2,16):=by kernel_rfl
structure sZ(N:aS)(c:az)(vs:List au)(b bm:Nat)(w:aj):Prop where
 box:∃fa fc vv,w.heap[b]? =some (xK #[xS c.name,xL fa c.fields.length fc,vv, .map (some bm)] 352)/\ab N w (xL fa c.fields.length fc) c.fields/\ab N w vv vs
 calls:fC w bm
theorem sZ.below(h:sZ N c vs b bm w)(k:aq w w'):sZ N c vs b bm w':=by
 obtain⟨⟨fa,fc,vv,h1,h2,h3⟩,h4⟩:=h;exact⟨⟨fa,fc,vv,(k.block b (Qaa.1 h1).1).trans h1,h2.below k,h3.below k⟩,h4.below k⟩
def tg(c:az)(e:ax)(t:aR):Prop:=∀(M N:aS)(w:aj)(v:an)(b bm:Nat)(vs:List au),bS M w v e->sZ N c vs b bm w->
 xC 269 #[xP b,v] w λε w'=>ε=xR (.tuple #[.agg #[xI t.kind,xI t.of],xB true])/\aq w w'
def jP:List (aT×Int×List Int):=[(⟨#[108,101,110]⟩,1,[2]),(⟨#[108,101,102,116]⟩,2,[2,1]),(⟨#[102,114,111,109]⟩,2,[2,1]),(⟨#[102,105,110,100]⟩,1,[2,2]),(⟨#[116,101,120,116]⟩,2,[1])]
def IQ(h:fC w bm){k:Int}{ks:List Int}(hm:(s,k,ks)∈jP):∃v f,ik (λi=>i<=bm) w v k ks/\∀W,W.heap[bm]? =w.heap[bm]?->(Instr.lookup 349 (.map (some bm)) (xS s) false).run prog W= .ok (gP v f) W:=by
 obtain⟨es,clk,h0,⟨v1,a1,t1⟩,⟨v2,a2,t2⟩,⟨v3,a3,t3⟩,⟨v4,a4,t4⟩,⟨v5,a5,t5⟩,h6⟩:=h;simp only[jP,Qdf,List.not_mem_nil,or_false,Prod.mk.injEq]at hm;rcases hm with⟨rfl,rfl,rfl⟩|⟨rfl,rfl,rfl⟩|⟨rfl,rfl,rfl⟩|⟨rfl,rfl,rfl⟩|⟨rfl,rfl,rfl⟩
 .exact⟨v1,_,t1,λW hW=>fh (hW.trans h0) _ _ a1⟩
 .exact⟨v2,_,t2,λW hW=>fh (hW.trans h0) _ _ a2⟩
 .exact⟨v3,_,t3,λW hW=>fh (hW.trans h0) _ _ a3⟩
 .exact⟨v4,_,t4,λW hW=>fh (hW.trans h0) _ _ a4⟩
 .exact⟨v5,_,t5,λW hW=>fh (hW.trans h0) _ _ a5⟩
def KG(h:fC w bm):∀W,W.heap[bm]? =w.heap[bm]?->(Instr.lookup 349 (.map (some bm)) (xS ⟨#[105,102]⟩) false).run prog W= .ok (gP (.func (.func 297) #[] #[]) 298) W:=by
 obtain⟨es,clk,h0,_,_,_,_,_,h6⟩:=h;exactλW hW=>fh (hW.trans h0) _ _ h6
inductive th(c:az):Int->aT->List aR->aR->Prop
 |num(s:aT):th c 1 s [] ⟨1,0⟩
 |txt(s:aT):th c 2 s [] ⟨2,0⟩
 |fld(f:ay)(i:Nat):fieldAt c f.name=i->c.fields[i]? =some f->th c 3 f.name [] f.type
 |ari(s:aT):s=⟨#[42]⟩\/s=⟨#[45]⟩\/s=⟨#[47]⟩->th c 4 s [⟨1,0⟩,⟨1,0⟩] ⟨1,0⟩
 |cat:th c 4 ⟨#[38]⟩ [⟨2,0⟩,⟨2,0⟩] ⟨2,0⟩
 |cmp(s:aT):s=⟨#[61]⟩\/s=⟨#[62]⟩->th c 4 s [⟨1,0⟩,⟨1,0⟩] ⟨1,0⟩
 |call(s:aT)(k:Int)(ts:List aR):(s,k,ts.map (·.kind))∈jP->th c 6 s ts ⟨k,0⟩
 |ite(p:Int):p=1\/p=2->th c 6 ⟨#[105,102]⟩ [⟨1,0⟩,⟨p,0⟩,⟨p,0⟩] ⟨p,0⟩
def E7(k n:Int)(s:aT)(v:an):Obj:=xK #[xI k,xI n,xS s,v] 287
def KH {l:List ax}(h:ab M w v l){k n:Int}{ll:List ax}(hx:l[i]? =some (.mk k n s ll)):∃b off cap a c,v=xL (some ⟨b,off,none⟩) l.length cap/\b<w.heap.size/\∀W,aq w W->(aU W b (off+i*4) (xI k)/\aU W b (off+i*4+1) (xI n)/\aU W b (off+i*4+2) (xS s)/\aU W b (off+i*4+3) (xL a ll.length c))/\bS M W (.agg #[xI k,xI n,xS s,xL a ll.length c]) (ax.mk k n s ll):=by
 obtain⟨b,off,cap,a,c,h1,h2,_,h4,h5,h6,h7,h8,h9⟩:=yY h hx;exact⟨b,off,cap,a,c,h1,h2,λW hB=>⟨⟨(hB.cell (p:=⟨b,off+i*4,none⟩) h2).trans h6,(hB.cell (p:=⟨b,off+i*4+1,none⟩) h2).trans h7,(hB.cell (p:=⟨b,off+i*4+2,none⟩) h2).trans h8,(hB.cell (p:=⟨b,off+i*4+3,none⟩) h2).trans h9⟩,yZ (h4.below hB) h5⟩⟩
def dE(c:az)(fS:c.name.size<=maxLen)(k n:Int)(s:aT)(l:List ax)(ts:List aR)(t:aR)(NS:ts.length<=3)(Ri:l.length=ts.length)(Rj:∀(i:Nat)(x:ax)(u:aR),l[i]? =some x->ts[i]? =some u->tg c x u)(Gy:th c k s ts t):tg c (.mk k n s l) t:=by
 intro M N w v b bm vs gz Gp;obtain⟨cs,rfl,bU⟩:=gz;obtain⟨lv,rfl,bo,j6⟩:=cC.iff.1 bU;obtain⟨i0,dz,dX,cY,dA⟩:=info_parts Mt;have Gz:Hd (∀W,aq w W->sZ N c vs b bm W):=λW hb=>Gp.below hb;have HK:Hd (∀(i:Nat)(k n:Int)(s:aT)(ll:List ax),l[i]? =some (ax.mk k n s ll)->_):=λi k n s ll hx=>KH bo hx;have bt:Hd (∀(i:Nat)(x:ax)(u:aR)(W:aj)(v:an),l[i]? =some x->ts[i]? =some u->aq w W->bS M W v x->_):=λi x u W v h1 h2 h3 h4=>Rj i x u h1 h2 M N W v b bm vs h4 (Gp.below h3);have Vf:b<w.heap.size:=by
  obtain⟨⟨fa,fc,vv,h1,_⟩,_⟩:=Gp;exact(Qaa.1 h1).1
 have Uf:bm<w.heap.size:=by
  obtain⟨_,es,clk,h0,_⟩:=Gp;exact(Qaa.1 h0).1
 have xO:=af Gy;obtain⟨la,lc,rfl,AW,XA,_⟩:=bo.open_;have Wy:Hd (ts.length=ts.length):=rfl;generalize NV:ts.length=m at*;have ek:=af Ri;rw[Ri]at AW HK⊢;obtain⟨cur,Cb,bD⟩:=mR (P:=prog) ((w.alloc (E7 k n s (.slice la m lc))).alloc (GK 0 0)) 377 136 i0 _ underlying377 dz dX m (by omega) (by omega);have Cf:=af NV;clear Gp bU bo Rj Gy Ri NV Wy;have iA:Hd (Bx w [E7 k n s (xL la m lc),GK 0 0] (((w.alloc (E7 k n s (xL la m lc))).alloc (GK 0 0)).alloc (.cells cur 136))):=(Bx.dh w _ _).alloc _;have Nt:Hd (dD (α:=aR) xF (w.heap.size+1+1) 136 (((w.alloc (E7 k n s (xL la m lc))).alloc (GK 0 0)).alloc (.cells cur 136)) m []):=dD.made cur ((Bx.gI w _ _ _).gy rfl) (by rw[bD,cY];rfl);clear bD;rw[show((w.alloc (E7 k n s (xL la m lc))).alloc (GK 0 0)).heap.size=w.heap.size+1+1 from by simp]at Cb;unfold E7 GK at Cb iA Nt;go_enter func269,ntmps269;go_wp2;go_loopg [7,8,9,10,20]m(λg _ _ _ _ iv wr=>∃i:Nat,i<=m/\g=m-i/\iv=xI i/\Hd (Bx w [E7 k n s (xL la m lc),GK 0 0] wr)/\Hd (dD (α:=aR) xF (w.heap.size+1+1) 136 wr m (ts.take i)));case atStart=>exact⟨0,Qbf _,rfl,rfl,iA,Nt⟩
 case round=>
  obtain⟨i,hi,rfl,rfl,HB,HA⟩:=hrel;have hsz:=HB.o.bY;simp only[Qcc,Qcd]at hsz;have XB:w.heap.size+1+1<wr.heap.size:=HA.o.lt;by_cases aX:i<m
  .obtain⟨⟨xk,xn,xs,xl⟩,hx⟩:=dQ l i (by rw[ek.o];exact aX);obtain⟨⟨uk,uo⟩,hu⟩:=dQ ts i (by rw[Cf.o];exact aX);obtain⟨bk,off,cap,xa,xc,hv,Lh,aw⟩:=HK.o i _ _ _ _ hx;obtain⟨rfl,rfl⟩:=gY hv;obtain⟨⟨q0,q1,q2,q3⟩,_⟩:=aw wr HB.o.1;have pX:=af (λo=>bt.o i _ _ (wr.alloc o) _ hx hu (HB.o.1.alloc HB.o.1.size o) (aw (wr.alloc o) (HB.o.1.alloc HB.o.1.size o)).2);have oR:=af (show ts.take (i+1)=ts.take i++[⟨uk,uo⟩]by rw[Qbb,hu];rfl);have xM:=af (show(ts.take i).length=i by have:=Cf.o;rw[Qdb];omega);clear hv aw hx hu;go_wp2_with fail;refine cG (pX.o _) λw1 aC=> ?_;have aO:=af (HB.o.below (aQ aC));have kj:=af (HA.o.below (aQ aC));have qef:=kj.o.lt;clear aC;have YT:i*2+1<m*2:=by omega
   obtain⟨u0,p0,f0⟩:=kj.o.cell (j:=i*2) (by show _<m*2;omega);obtain⟨u1,p1,f1⟩:=kj.o.cell (j:=i*2+1) (by show _<m*2;omega);go_wp2;go_roundg(m-(i+1));case measure=>omega
   case rel=>
    refine⟨i+1,by omega,rfl,by go_num,?_,?_⟩
    .exact((aO.o.cP (B:=w.heap.size+2) ((dK.setCell (by simp) _).setCell (by simp) _) (by simp)).alloc _)
    .exact(show dD _ _ _ _ _ _ by rw[oR.o];exact(kj.o.Pw rfl xM.o aX rfl).below bO)
  .have tZ:=af (show ab xF wr (xL (some ⟨w.heap.size+1+1,0,none⟩) m m) ts by
    have h1:=HA.o;rw[Qah (by rw[Cf.o];omega)]at h1;exact h1.slice Cf.o (λh=>h) (by unfold maxLen;omega));obtain⟨e0,e1,e2,e3⟩:=ae (HB.o.bJ rfl);obtain⟨c0,c1⟩:=ah (HB.o.cE rfl);obtain⟨f0,f1⟩:=nu (HB.o.cE rfl);clear HA;cases xO.o with
   |num s=>
    go_wp2_with fail;refine Qae (v:= .tuple #[.agg #[xI 1,xI 0],xB true]) (by simp[results,results269,go_sem,c0,c1]) rfl ⟨rfl,?_⟩;exact(HB.o.1.setCell (by simp) _).setCell (by simp) _
   |txt s=>
    go_wp2_with fail;refine Qae (v:= .tuple #[.agg #[xI 2,xI 0],xB true]) (by simp[results,results269,go_sem,c0,c1]) rfl ⟨rfl,?_⟩;exact(HB.o.1.setCell (by simp) _).setCell (by simp) _
   |fld f i Vj JW=>
    have HSW:=Gz.o w dK;obtain⟨⟨fa,fc,vv,wE,bR,_⟩,_⟩:=HSW;have bN:Hd (∀W,aq w W->cI W b (xK #[xS c.name,xL fa c.fields.length fc,vv, .map (some bm)] 352)):=λW hb=>(hb.block b Vf).trans wE;have R9:Hd (∀W,aq w W->xC 60 #[.agg #[xS c.name,xL fa c.fields.length fc],xS f.name] W (cN (.tuple #[xI (i:Int),xB true]) W)):=λW hb=>jJ N _ W c f.name i true (bR.below hb) fS (by rw[Vj];rw[if_neg (by omega)]) (by rw[Vj];simp);have NR:=af (ky bR JW);obtain⟨bf,of,cf,Xd,GR,_,_⟩:=NR.o;obtain⟨rfl,rfl⟩:=gY Xd;have Xh:Hd (∀W,aq w W->aU W bf (of+i*4+1) (xI f.type.kind)/\aU W bf (of+i*4+2) (xI f.type.of)):=λW hb=>by
     obtain⟨b2,o2,c2,h1,_,_,h4⟩:=NR.o;obtain⟨⟨rfl,rfl⟩,rfl⟩:(bf=b2/\of=o2)/\fc=c2:=by simpa using h1
     exact⟨(h4 W hb).2.1,(h4 W hb).2.2.1⟩
    have zV:=(Qad.1 JW).1;obtain⟨b0,b1,b2,b3⟩:=ae (bN.o wr HB.o.1);clear wE bR Xd NR Vj JW;go_upto_region 14 with fail;go_region_law(first
     |(go_simp;go_at_call 60;refine cG (R9.o _ HB.o.1.drew) λw2 aY=> ?_;have aL:=af (HB.o.drew.below aY);clear aY));all_goals
     obtain⟨b0,b1,b2,b3⟩:=ae (bN.o w2 aL.o.1);obtain⟨q1,q2⟩:=Xh.o w2 aL.o.1;obtain⟨c0,c1⟩:=ah (aL.o.cE rfl);obtain⟨f0,f1⟩:=nu (aL.o.cE rfl);go_wp2_with fail;refine Qae (v:= .tuple #[.agg #[xI f.type.kind,xI f.type.of],xB true]) (by simp[results,results269,go_sem,c0,c1]) rfl ⟨rfl,?_⟩;exact(aL.o.1.setCell (by simp) _).setCell (by simp) _
   |ari s hs=>
    go_wp2_with fail;refine(IM s hs _).mono ?_;rintro e w2⟨_,rfl,⟨p,q,kv,rfl,_,_,h4,h5,h6⟩,aY⟩;have aL:=af (HB.o.below aY);have QZ:=af (uQ [⟨1,0⟩,⟨1,0⟩] 1 xF xF w2 _ undef (by simp) (tZ.o.below aY) p q kv h4 h5 h6);clear h4 h5 h6 aY;go_wp2_with fail;refine cG (QZ.o) λw3 bG=> ?_;have bI:=af (aL.o.below bG);obtain⟨c0,c1⟩:=ah (bI.o.cE rfl);obtain⟨f0,f1⟩:=nu (bI.o.cE rfl);clear bG;go_wp2_with fail;refine Qae (v:= .tuple #[.agg #[xI 1,xI 0],xB true]) (by simp[results,results269,go_sem,c0,c1]) rfl ⟨rfl,?_⟩;exact(bI.o.1.setCell (by simp) _).setCell (by simp) _
   |cat=>
    go_wp2_with fail;refine(IN _).mono ?_;rintro e w2⟨_,rfl,⟨p,q,kv,rfl,_,_,h4,h5,h6⟩,aY⟩;have aL:=af (HB.o.below aY);have QZ:=af (uQ [⟨2,0⟩,⟨2,0⟩] 2 xF xF w2 _ undef (by simp) (tZ.o.below aY) p q kv h4 h5 h6);clear h4 h5 h6 aY;go_wp2_with fail;refine cG (QZ.o) λw3 bG=> ?_;have bI:=af (aL.o.below bG);obtain⟨c0,c1⟩:=ah (bI.o.cE rfl);obtain⟨f0,f1⟩:=nu (bI.o.cE rfl);clear bG;go_wp2_with fail;refine Qae (v:= .tuple #[.agg #[xI 2,xI 0],xB true]) (by simp[results,results269,go_sem,c0,c1]) rfl ⟨rfl,?_⟩;exact(bI.o.1.setCell (by simp) _).setCell (by simp) _
   |cmp s hs=>
    go_wp2_with fail;refine dJ (IP s hs _) ?_;have QZ:=af (Pv ⟨1,0⟩ (.inl rfl) _ wr _ tZ.o);go_wp2_with fail;refine cG (QZ.o) λw3 bG=> ?_;have bI:=af (HB.o.below bG);obtain⟨c0,c1⟩:=ah (bI.o.cE rfl);obtain⟨f0,f1⟩:=nu (bI.o.cE rfl);clear bG;go_wp2_with fail;refine Qae (v:= .tuple #[.agg #[xI 1,xI 0],xB true]) (by simp[results,results269,go_sem,c0,c1]) rfl ⟨rfl,?_⟩;exact(bI.o.1.setCell (by simp) _).setCell (by simp) _
   |call s k ts hm=>
    obtain⟨⟨fa,fc,vv,wE,_,_⟩,mB⟩:=Gz.o wr HB.o.1;obtain⟨b0,b1,b2,b3⟩:=ae wE;obtain⟨v,f,⟨p,q,kv,rfl,_,_,h4,h5,h6⟩,oW⟩:=IQ mB hm;have Rk:=oW wr.drew rfl;have QZ:=af (uQ ts k xF (λi=>i<=bm) wr.drew _ undef (by have:=Cf.o;omega) (tZ.o.below (w':=wr.drew) ⟨rfl,rfl,rfl,bq,λ_ _=>rfl⟩) p q kv h4 h5 (h6.ev ((Ev.refl _ _).drew)));clear h4 h5 h6 oW wE mB hm;unfold gP at Rk;have AX:∀(v u:an)(w:aj),(Instr.field 373 (.agg #[v,u]) 0).run prog w= .ok v w:=λ_ _ _=>by kernel_rfl
    go_upto_region 23 with fail;go_region_law(first
     |(go_simp;go_at_call 312;refine cG (QZ.o) λw3 bG=> ?_;have bI:=af (HB.o.drew.below bG);clear bG;have c0:=(ah (bI.o.cE rfl)).1;have c1:=(ah (bI.o.cE rfl)).2;have f0:=ag (bI.o.cE rfl) 0;have f1:=ag (bI.o.cE rfl) 1));all_goals
     go_wp2_with fail;refine Qae (v:= .tuple #[.agg #[xI k,xI 0],xB true]) (by simp[results,results269,go_sem,c0,c1]) rfl ⟨rfl,?_⟩;exact(bI.o.1.setCell (by simp) _).setCell (by simp) _
   |ite p hp=>
    obtain⟨⟨fa,fc,vv,wE,_,_⟩,mB⟩:=Gz.o wr HB.o.1;obtain⟨b0,b1,b2,b3⟩:=ae wE;have Rk:=KG mB wr.drew rfl;have QZ:=af (Ms ⟨p,0⟩ hp xF wr.drew _ (tZ.o.below (w':=wr.drew) ⟨rfl,rfl,rfl,bq,λ_ _=>rfl⟩));clear wE mB hp;unfold gP at Rk;have AX:∀(v u:an)(w:aj),(Instr.field 373 (.agg #[v,u]) 0).run prog w= .ok v w:=λ_ _ _=>by kernel_rfl
    go_upto_region 23 with fail;go_region_law(first
     |(go_simp;go_at_call 297;refine cG (QZ.o) λw3 bG=> ?_;have bI:=af (HB.o.drew.below bG);clear bG;have c0:=(ah (bI.o.cE rfl)).1;have c1:=(ah (bI.o.cE rfl)).2;have f0:=ag (bI.o.cE rfl) 0;have f1:=ag (bI.o.cE rfl) 1));all_goals
     go_wp2_with fail;refine Qae (v:= .tuple #[.agg #[xI p,xI 0],xB true]) (by simp[results,results269,go_sem,c0,c1]) rfl ⟨rfl,?_⟩;exact(bI.o.1.setCell (by simp) _).setCell (by simp) _
end Go.Proofs.YtccpcfcochffcaaGreatDoor
