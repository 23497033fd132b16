/- A part of MarkAsks's proof; no condition. -/
import Derived.Test.YtccpcfcochffcaaGreatDoorM06
set_option linter.all false
set_option maxHeartbeats 8000000
set_option maxRecDepth 100000
namespace Go.Proofs.YtccpcfcochffcaaGreatDoor
open Tryz
open Go.RowKit
variable{f:ay}{k g:Nat}{w W:aj}{M:aS}{t:TypeId}{c0 c1 c2 cv:an}{c d:az}{x:aB}
def yz(x:aB)(f:ay):(cr x f).length<=2:=by unfold cr;repeat(first|split|simp)
theorem Ef(x:aB):∀l:List ay,(l.flatMap (cr x)).length<=2*l.length
 |[]=>by simp
 |f::r=>by rw[List.flatMap_cons,Qda];have:=yz x f;have:=Ef x r;have:(f::r).length=r.length+1:=rfl;omega
def LG(x:aB){l:List ay}(h:l[k]? =some f):(l.take k).flatMap (cr x)++cr x f=(l.take (k+1)).flatMap (cr x):=by
 rw[Qbb,h,List.flatMap_append];simp
def cS(n:aT)(v:an):Obj:=xK #[xS n,v] 101
def tV(x:aB):Obj:=xK #[xI x.kind,xS x.field,xS x.name,xS x.more,xI x.type.kind,xI x.type.of,xS x.expr,xS x.other] 159
def VM(w2:aj)(nm:aT)(fs:List ay)(a:dC)(n cap:Nat)(wr:aj):Prop:=
 fs.length=n/\aP (λi=>i<w2.heap.size+1) (w2.heap.size+1) 138 wr (xL a n cap) fs/\Bx w2 [cS nm (xL a n cap)] wr
def yA(c:az)(x:aB)(hp:qT c x)(hc:aM c=true)(fS:c.name.size<=maxLen)(hb:jf c x=true)(M:aS)(w:aj)(hM:Bd M w)(fv:an)(bR:ab M w fv c.fields):
 xC 135 #[.agg #[xS c.name,fv], .agg #[xI x.kind,xS x.field,xS x.name,xS x.more,xI x.type.kind,xI x.type.of,xS x.expr,xS x.other]] w
  (bW w λv w'=>∃jY,v= .tuple #[.agg #[xS c.name,jY],xI 0]/\ab M w' jY (bT c x).fields):=by
 obtain⟨i0,dz,dX,cY,dA⟩:=info_parts iw;have h8:=((bc c).1 hc).2.1;have hk:x.kind=1\/x.kind=2\/x.kind=3\/x.kind=4\/x.kind=5\/x.kind=6:=by have:=hp.sh;simp only[nB]at this;omega
 have HR:Hd (∀W fv,ab M W fv c.fields->_):=λW fv h=>ko M fv W c h fS hc;have HC:Hd (∀W fv,Bd M W->ab M W fv c.fields->_):=λW fv h1 h2=>vD c x hp hc fS true hb M W h1 fv h2;have HTU:Hd (∀(f:ay)(N:aS)(W:aj),f.name.size<=maxLen->Bd N W->_):=λf N W h1 h2=>Ht x f hk h1 hp.s2 hp.s3 N W h2;have eB:Hd (x.name.size<=maxLen):=hp.s2;have im:=af bR;obtain⟨fa,fc,rfl,AW,wP,aw⟩:=bR.open_;have tP:=af aw;clear hp bR aw hb;have QZ:=af (λ(k:Nat)(f:ay)(h:c.fields[k]? =some f)=>LG x h);have xM:=af (λ(k:Nat)=>Ef x (c.fields.take k));have K4:=af (yz x);have HAD:Hd (∀(fs:List ay),(c.fields.take c.fields.length).flatMap (cr x)=fs->(x.kind=1->(bT c x).fields=fs++[⟨x.name,x.type,false⟩])/\(x.kind≠1->(bT c x).fields=fs)):=λfs h=>by
  rw[List.take_length]at h;unfold bT Kn;rw[h];exact⟨λh=>by simp[h],λh=>by simp[h]⟩
 have Wy:Hd (∀f,∃ts,cr x f=ts):=λf=>⟨_,rfl⟩;have HCH:Hd (∀(o:Obj),tV x=o->o=xK #[xI x.kind,xS x.field,xS x.name,xS x.more,xI x.type.kind,xI x.type.of,xS x.expr,xS x.other] 159):=λo h=>h.symm;go_enter func135,ntmps135;go_wp2_with fail;refine cG (HR.o _ _ (im.o.below (Bx.gI _ _ _ _).1)) λw1 aC=> ?_;have jU:Hd (Bx w [cS c.name (xL fa c.fields.length fc),tV x,cS ⟨#[]⟩ (xL none 0 0)] w1):=(Bx.gI w _ _ _).below aC;clear aC;obtain⟨c0,c1⟩:=ah (jU.o.bJ rfl);obtain⟨a0,a1,a2,a3,a4,a5,a6,a7⟩:=ak (jU.o.cE rfl);go_wp2_with fail;refine cG (HC.o _ _ (hM.below jU.o.1) (im.o.below jU.o.1)) λw2 aY=> ?_;have fQ:Hd (Bx w [cS c.name (xL fa c.fields.length fc),tV x,cS ⟨#[]⟩ (xL none 0 0)] w2):=jU.o.below aY;clear aY c0 c1 a0 a1 a2 a3 a4 a5 a6 a7;obtain⟨c0,c1⟩:=ah (fQ.o.bJ rfl);have s2:=fQ.o.2.1;simp only[Qcc,Qcd]at s2;go_wp2;go_loopg [7]c.fields.length(λg iv wr=>∃(k m cap:Nat)(a:dC),k<=c.fields.length/\g=c.fields.length-k/\iv=xI k/\Hd (VM w2 c.name ((c.fields.take k).flatMap (cr x)) a m cap wr));case atStart=>exact⟨0,0,0,none,Qbf _,rfl,rfl,(show VM _ _ _ _ _ _ _ from⟨rfl,aP.nil _ _ _ _,Bx.dR w2 _⟩)⟩
 case round=>
  obtain⟨k,m,cap,a,Wu,rfl,rfl,HS⟩:=hrel;have HW:Hd (Bx w [cS c.name (xL fa c.fields.length fc),tV x,cS ⟨#[]⟩ (xL none 0 0)] wr):=fQ.o.below HS.o.2.2.1;clear c0 c1;obtain⟨c0,c1⟩:=ah (HW.o.bJ rfl);obtain⟨a0,a1,a2,a3,a4,a5,a6,a7⟩:=ak (HW.o.cE rfl);obtain⟨o0,o1⟩:=ah (HS.o.2.2.bJ rfl);have sr:=HS.o.2.2.2.1;simp only[Qcc,Qcd]at sr;have YN:m<=2*c.fields.length:=by
   have:=xM.o k;rw[HS.o.1,Qdb]at this;omega
  by_cases aX:k<c.fields.length
  .obtain⟨b,off,rfl,Dl,cw,aG⟩:=tP.o (by omega);obtain⟨f,hf⟩:=dQ c.fields k aX;obtain⟨cs,⟨rfl,WV⟩,bD⟩:=aG k f hf;have R9:Hd (∀W,aq w W->aU W b (off+k*4) (xS f.name)/\aU W b (off+k*4+1) (xI f.type.kind)/\aU W b (off+k*4+2) (xI f.type.of)/\aU W b (off+k*4+3) (xB f.indexed)):=λW hb=>⟨(hb.cell (p:=⟨b,off+k*4,none⟩) cw).trans (bD 0 _ rfl),(hb.cell (p:=⟨b,off+k*4+1,none⟩) cw).trans (bD 1 _ rfl),(hb.cell (p:=⟨b,off+k*4+2,none⟩) cw).trans (bD 2 _ rfl),(hb.cell (p:=⟨b,off+k*4+3,none⟩) cw).trans (bD 3 _ rfl)⟩;obtain⟨q0,q1,q2,q3⟩:=R9.o wr HW.o.1;have qan:=af (QZ.o k f hf);obtain⟨ts,qa⟩:=Wy.o f;have Cf:=af qa;have hT2:ts.length<=2:=by rw[<-qa];exact K4.o f
   clear aG bD hf qa;have BDM:Hd (Bd (bB (xL a m cap) (λi=>i<w2.heap.size+1)) wr.drew):=λi h=>by rcases h with h|h;(have:i<w2.heap.size+1:=h);(show i<wr.heap.size);omega;exact(HS.o.2.1.dU i h).2
   have bt:=af (HTU.o f _ _ WV BDM.o);rw[Cf.o]at bt;go_upto_region 9 with fail;go_region_law(first
    |(go_simp;go_at_call 177;refine bt.o.mono ?_;rintro en w3⟨_,rfl,bo,bG⟩;obtain⟨ya,yc,rfl,_⟩:=bo.open_;have eE:=af bo;have bI:=af bG;have iq:Hd (Bx w2 [cS c.name (xL a m cap)] w3):=HS.o.2.2.drew.below bG;have Ld:Hd (aP (λi=>i<w2.heap.size+1) (w2.heap.size+1) 138 w3 (xL a m cap) ((c.fields.take k).flatMap (cr x))):=(HS.o.2.1.below ⟨rfl,rfl,rfl,bq,λ_ _=>rfl⟩:aP _ _ _ wr.drew _ _).below bG;have qA:Hd (Bx w [cS c.name (xL (some ⟨b,off,none⟩) c.fields.length fc),tV x,cS ⟨#[]⟩ (xL none 0 0)] w3):=fQ.o.below iq.o.1;have b0:=(ah (qA.o.bJ rfl)).1;have b1:=(ah (qA.o.bJ rfl)).2;have p1:pd w3 w2 1 (xL a m cap):=(ah (iq.o.bJ rfl)).2;have s3:=iq.o.2.1;simp only[Qcc,Qcd]at s3;clear bo bG)
    |(refine mH (α:=ay) rfl _ _ _ rfl (λi=>i<w2.heap.size+1) (w2.heap.size+1) 138 i0 _ 40 underlying99 dz dX cY dA rfl (by decide) (.slice a m cap) _ rfl Ld.o _ ts rfl eE.o (by rw[HS.o.1];unfold maxLen;omega) (by rw[HS.o.1];omega) (by omega) ?_;rw[HS.o.1];intro a4 c4 w4 Gs WW dT;have Q0:=af Gs;have jV:Hd (Bx w2 [cS c.name (xL a m cap)] w4):=iq.o.cP dT (by simp);have l3:pd w4 w2 1 (xL a m cap):=(ah (jV.o.bJ rfl)).2;have l4:w4.frozen? ⟨w2.heap.size,1,none⟩=false:=ag (jV.o.bJ rfl) 1;clear Gs WW dT));all_goals
    go_wp2;go_roundg(c.fields.length-(k+1));case measure=>omega
    case rel=>
     refine⟨k+1,m+ts.length,c4,a4,by omega,rfl,by go_num,?_⟩;refine(show VM _ _ _ _ _ _ _ from⟨?_,?_,?_⟩)
     .rw[<-qan.o,Qda,HS.o.1,Cf.o]
     .rw[<-qan.o,Cf.o];exact Q0.o.uz (p:=⟨w2.heap.size,1,none⟩) (by simp) (by simp) _
     .exact jV.o.set 0 1 rfl _
  .have YO:k=c.fields.length:=by omega
   by_cases qM:x.kind=1
   .have si:(x.kind==1)=true:=by simpa using qM
    have p8:=af (show(bT c x).fields=(c.fields.take k).flatMap (cr x)++[⟨x.name,x.type,false⟩]by rw[YO];exact((HAD.o _ rfl).1 qM));go_wp2_with(at_builtin;refine aZ (α:=ay) rfl _ _ _ rfl (λi=>i<w2.heap.size+1) (w2.heap.size+1) 138 i0 _ 40 underlying99 dz dX cY dA rfl (by decide) (.slice a m cap) _ rfl (HS.o.2.1.alloc _) (λ_=>True) _ _ (⟨x.name,x.type,false⟩:ay) rfl (b9 _ _ _ _ rfl trivial) ⟨rfl,eB.o⟩ (by rw[HS.o.1];unfold maxLen;omega) (by rw[HS.o.1];omega) (by simp;omega) ?_;rw[HS.o.1];intro a4 c4 w4 Gs WW dT;have Q0:=af Gs;have jV:Hd (Bx w2 [cS c.name (xL a m cap)] w4):=(HS.o.2.2.alloc _).cP dT (by simp);have qC:Hd (Bx w [cS c.name (xL fa c.fields.length fc),tV x,cS ⟨#[]⟩ (xL none 0 0)] w4):=fQ.o.below jV.o.1;have l3:pd w4 w2 1 (xL a m cap):=(ah (jV.o.bJ rfl)).2;have l4:w4.frozen? ⟨w2.heap.size,1,none⟩=false:=ag (jV.o.bJ rfl) 1;have l5:pd w4 w2 0 (xS c.name):=(ah (jV.o.bJ rfl)).1;have r0:=(ah (qC.o.gy rfl)).1;have r1:=(ah (qC.o.gy rfl)).2;obtain⟨g0,g1⟩:=nu (qC.o.gy rfl);have ne2:w.heap.size+1+1≠w2.heap.size:=by omega
                                                                                                                                               clear Gs WW dT);refine Qae (v:= .tuple #[.agg #[xS c.name,xL a4 (m+1) c4],xI 0]) (by simp[results,results135,go_sem,r0,r1]) rfl ⟨_,rfl,⟨_,rfl,?_⟩,?_⟩
    .rw[p8.o];exact(Q0.o.slice (λi h=>h)).ev ((((Ev.eG (M:=λi=>i<w2.heap.size+1) (N:=M) w4 (λi hi=>by have:=hM i hi;omega)).setCell (.inl (by show w2.heap.size<w2.heap.size+1;omega)) _).setCell (.inl (by show w.heap.size+1+1<w2.heap.size+1;omega)) _).setCell (.inl (by show w.heap.size+1+1<w2.heap.size+1;omega)) _)
    .exact((qC.o.1.setCell (by show w.heap.size<=w2.heap.size;omega) _).setCell (by show w.heap.size<=w.heap.size+1+1;omega) _).setCell (by show w.heap.size<=w.heap.size+1+1;omega) _
   .have si:(x.kind==1)=false:=by simpa using qM
    have p8:=af (show(bT c x).fields=(c.fields.take k).flatMap (cr x)by rw[YO];exact((HAD.o _ rfl).2 qM));obtain⟨r0,r1⟩:=ah (HW.o.gy rfl);obtain⟨g0,g1⟩:=nu (HW.o.gy rfl);have ne2:w.heap.size+1+1≠w2.heap.size:=by omega
    go_wp2_with fail;refine Qae (v:= .tuple #[.agg #[xS c.name,xL a m cap],xI 0]) (by simp[results,results135,go_sem,r0,r1]) rfl ⟨_,rfl,⟨_,rfl,?_⟩,?_⟩
    .rw[p8.o];exact(HS.o.2.1.slice (λi h=>h)).ev (((Ev.eG (M:=λi=>i<w2.heap.size+1) (N:=M) wr (λi hi=>by have:=hM i hi;omega)).setCell (.inl (by show w.heap.size+1+1<w2.heap.size+1;omega)) _).setCell (.inl (by show w.heap.size+1+1<w2.heap.size+1;omega)) _)
    .exact(HW.o.1.setCell (by show w.heap.size<=w.heap.size+1+1;omega) _).setCell (by show w.heap.size<=w.heap.size+1+1;omega) _
def dP(M:aS)(w:aj)(n:Nat):Nat->Prop:=λi=>M i\/(w.heap.size<=i/\i<w.heap.size+n)
def cW {n:Nat}(h:aq w W):Ev M w (dP M w n) W:=⟨ai.ao h,λi hi=>hi.imp_right λh=>h.1⟩
def dp {n:Nat}(hM:Bd M w)(h:w.heap.size+n<=W.heap.size):Bd (dP M w n) W:=λi hi=>by rcases hi with hi|hi;(have:=hM i hi;omega);omega
def ep {n:Nat}(W:aj):Ev (dP M w n) W M W:=Ev.eG W λi hi=> .inl hi
def cD(n:aT)(fv cv:an):Obj:=xK #[xS n,fv,cv] 104
def aD(h:W.heap[g]? =some (xK #[c0,c1,c2] t)):W.cell? ⟨g,0,none⟩=some c0/\W.cell? ⟨g,1,none⟩=some c1/\W.cell? ⟨g,2,none⟩=some c2:=by simp[World.cell?,h]
theorem cU.name {l:List aB}(h:cU c l d):d.name=c.name:=by
 induction h with
 |nil c=>rfl
 |cons c d x l _ _ _ ih=>exact ih
def yB {e:az}{l:List aB}(h:cU c (l.take k) e)(ha:cU c l d)(hx:l[k]? =some x):iT e x/\jf e x=true/\cU c (l.take (k+1)) (bT e x):=by
 obtain⟨e',h1,h2⟩:=ha.split k;obtain rfl:=h.eq h1;have hd:l.drop k=x::l.drop (k+1):=by
  obtain⟨hl,he⟩:=Qad.1 hx;rw[List.drop_eq_getElem_cons hl,he]
 rw[hd]at h2;cases h2 with
 |cons _ _ _ _ g b _=>exact⟨g,b,by rw[Qbb,hx];exact h.snoc g b⟩
def vF:(Tryz.prog.info? 159).map (λi=>(i.zero,i.size,i.bytes))=some (some (.agg #[xI 0,xS ⟨#[]⟩,xS ⟨#[]⟩,xS ⟨#[]⟩,xI 0,xI 0,xS ⟨#[]⟩,xS ⟨#[]⟩]),8,104):=by kernel_rfl
def pC {l:List aB}(h:ab M w cv l)(hx:l[k]? =some x):∃b off cap,cv=xL (some ⟨b,off,none⟩) l.length cap/\b<w.heap.size/\∀W,aq w W->aU W b (off+k*8) (xI x.kind)/\aU W b (off+k*8+1) (xS x.field)/\aU W b (off+k*8+2) (xS x.name)/\aU W b (off+k*8+3) (xS x.more)/\aU W b (off+k*8+4) (xI x.type.kind)/\aU W b (off+k*8+5) (xI x.type.of)/\aU W b (off+k*8+6) (xS x.expr)/\aU W b (off+k*8+7) (xS x.other):=by
 obtain⟨a,cap,rfl,hl,_,hc⟩:=h.open_;have hk:=(Qad.1 hx).1;obtain⟨b,off,rfl,_,hb,aG⟩:=hc (by omega);obtain⟨cs,⟨rfl,_⟩,bD⟩:=aG k x hx;refine⟨b,off,cap,rfl,hb,λW hB=> ?_⟩;have g:∀j u,([xI x.kind,xS x.field,xS x.name,xS x.more,xI x.type.kind,xI x.type.of,xS x.expr,xS x.other]:List an)[j]? =some u->aU W b (off+k*8+j) u:=λj u hu=>(hB.cell (p:=⟨b,off+k*8+j,none⟩) hb).trans (bD j u hu);exact⟨g 0 _ rfl,g 1 _ rfl,g 2 _ rfl,g 3 _ rfl,g 4 _ rfl,g 5 _ rfl,g 6 _ rfl,g 7 _ rfl⟩
def LH(M:aS)(w:aj)(l:aK)(os:List Obj)(E:Nat)(k:Nat)(nm:aT)(a:dC)(n cap:Nat)(wr:aj):Prop:=
 ∃e:az,cU l.first (l.changes.take k) e/\e.name=nm/\e.fields.length=n/\ab (dP M w 3) wr (xL a n cap) e.fields/\Bx w (os++[cS nm (xL a n cap)]) wr
def LI(l:aK)(d:az)(hc:cA l.first)(QO:cU l.first l.changes d)(h5:l.changes.length<=12)(M:aS)(w:aj)(hM:Bd M w)(fv cv:an)(bR:ab M w fv l.first.fields)(bD:ab M w cv l.changes):
 xG 77 #[.agg #[xS l.first.name,fv,cv]] w λv w'=>∃jY,v= .agg #[xS l.first.name,jY]/\ab M w' jY d.fields:=by
 have rT:Hd (∀(c:az)(x:aB)(W:aj)(fv:an),iT c x->cA c->jf c x=true->Bd (dP M w 3) W->ab (dP M w 3) W fv c.fields->_):=λc x W fv h1 h2 h3 h4 h5=>yA c x h1.pre h2.right (cz h2.small) h3 (dP M w 3) W h4 fv h5;have fu:Hd (∀k e x,cU l.first (l.changes.take k) e->l.changes[k]? =some x->cA e/\iT e x/\jf e x=true/\cU l.first (l.changes.take (k+1)) (bT e x)):=λk e x h1 h2=>⟨h1.ok hc,yB h1 QO h2⟩;have WX:Hd (∀e,cU l.first (l.changes.take l.changes.length) e->e=d):=λe h=>by rw[List.take_length]at h;exact h.eq QO
 have sd:Hd (∀k x,l.changes[k]? =some x->_):=λk x h=>pC bD h;have im:=af bR;obtain⟨fa,fc,rfl,AW,wP,_⟩:=bR.open_;obtain⟨ca,cc,rfl,WY,WZ,_⟩:=bD.open_;obtain⟨⟨nm,fs⟩,chs⟩:=l;dsimp only at*;go_enter func77,ntmps77;go_wp2;go_loopg [4]chs.length(λg iv wr=>∃(k n cap:Nat)(a:dC),k<=chs.length/\g=chs.length-k/\iv=xI k/\Hd (LH M w ⟨⟨nm,fs⟩,chs⟩ [cD nm (xL fa fs.length fc) (xL ca chs.length cc),cS ⟨#[]⟩ (xL none 0 0)] 2 k nm a n cap wr));case atStart=>exact⟨0,fs.length,fc,fa,Qbf _,rfl,rfl,(show LH _ _ _ _ _ _ _ _ _ _ _ from⟨⟨nm,fs⟩,by simpa using cU.nil _,rfl,rfl,im.o.ev (cW (Bx.gI w _ _ _).1),Bx.gI w _ _ _⟩)⟩
 case round=>
  obtain⟨k,n,cap,a,Wu,rfl,rfl,HS⟩:=hrel;obtain⟨e,Xa,Q1,hel,bo,wE⟩:=HS.o;have bN:=af wE;obtain⟨l0,l1,l2⟩:=aD (bN.o.bJ rfl);obtain⟨o0,o1⟩:=ah (bN.o.gy rfl);have sr:=bN.o.bY;simp only[Qcc,Qcd,Qda]at sr;by_cases aX:k<chs.length
  .obtain⟨x,hx⟩:=dQ chs k aX;obtain⟨b,off,fq,wT,cw,aw⟩:=sd.o k x hx;obtain⟨rfl,rfl⟩:=gY wT;obtain⟨k0,k1,k2,k3⟩:=fu.o k e x Xa hx;have lO:=af k3;obtain⟨q0,q1,q2,q3,q4,q5,q6,q7⟩:=aw wr bN.o.1;have bt:=af (rT.o e x wr.drew (xL a n cap) k1 k0 k2 (dp (W:=wr.drew) hM (by show _<=wr.heap.size;omega)) (bo.ev ((Ev.refl _ _).drew)));rw[Q1]at bt;go_upto_region 5 with fail;go_region_law(first
    |(go_simp;go_at_call 135;refine bt.o.mono ?_;rintro en w3⟨_,rfl,⟨jY,rfl,bo⟩,bG⟩;obtain⟨ya,yc,rfl,_⟩:=bo.open_;have eE:=af bo;have bI:Hd (Bx w [cD nm (xL fa fs.length fc) (xL (some ⟨b,off,none⟩) chs.length cc),cS ⟨#[]⟩ (xL none 0 0),cS nm (xL a n cap)] w3):=bN.o.drew.below bG;have p0:=(ah (bI.o.gy rfl)).1;have p1:=(ah (bI.o.gy rfl)).2;obtain⟨f0,f1⟩:=nu (bI.o.gy rfl);clear bo bG));all_goals
    go_wp2;go_roundg(chs.length-(k+1));case measure=>omega
    case rel=>
     refine⟨k+1,(bT e x).fields.length,yc,ya,by omega,rfl,by go_num,?_⟩;refine(show LH _ _ _ _ _ _ _ _ _ _ _ from⟨bT e x,lO.o,Q1,rfl,?_,?_⟩)
     .exact eE.o.ev ((((Ev.refl _ _).setCell (.inl (.inr ⟨by show w.heap.size<=w.heap.size+1+1;omega,by show w.heap.size+1+1<w.heap.size+3;omega⟩)) _).setCell (.inl (.inr ⟨by show w.heap.size<=w.heap.size+1+1;omega,by show w.heap.size+1+1<w.heap.size+3;omega⟩)) _))
     .exact(bI.o.set 2 0 rfl _).set 2 1 rfl _
  .have YO:k=chs.length:=by omega
   obtain rfl:e=d:=WX.o e (by rw[<-YO];exact Xa);have eE:=af bo;obtain⟨r0,r1⟩:=ah (bN.o.cE rfl);obtain⟨g0,g1⟩:=nu (bN.o.cE rfl);subst hel;go_wp2_with fail;refine Qae (v:= .agg #[xS nm,xL a e.fields.length cap]) (by simp[results,results77,go_sem,r0,r1]) rfl ⟨_,rfl,⟨_,rfl,?_⟩,?_⟩
   .exact eE.o.ev ((((ep wr).setCell (.inl (.inr ⟨by show w.heap.size<=w.heap.size+1;omega,by show w.heap.size+1<w.heap.size+3;omega⟩)) _).setCell (.inl (.inr ⟨by show w.heap.size<=w.heap.size+1;omega,by show w.heap.size+1<w.heap.size+3;omega⟩)) _))
   .exact(bN.o.1.setCell (by show w.heap.size<=w.heap.size+1;omega) _).setCell (by show w.heap.size<=w.heap.size+1;omega) _
def nD(M:aS)(w:aj)(hM:Bd M w)(x:uy)(fv:an)(hs:ab M w fv x.fields)(hn:I6 x.name):
 xG 43 #[.agg #[xI x.name,fv]] w λv w'=>∃c,iQ c/\(0<x.fields.length->0<c.fields.length)/\bS M w' v c:=by
 obtain⟨i0,dz,dX,cY,dA⟩:=info_parts iw
 obtain⟨a,bQ,rfl,cK,hm,hc⟩:=hs.open_
 have HC:=af hc;clear hc;have HI:=af hn;clear hn
 clear hs
 generalize hn:x.fields.length=n at*
 have HN:=af hn;clear hn
 have hp:=cq x.name 6 (by omega)
 go_enter func43,ntmps43
 go_wp2_with fail
 refine dJ (eS _ _ _ HI.o (by omega) (by omega)) ?_
 obtain⟨W,hW⟩:∃W:aj,W=(((w.alloc (xK #[xI x.name,xL a n bQ] 108)).alloc (xK #[xS ⟨#[]⟩,xL none 0 0] 101)).alloc
  (xK #[xS ⟨#[97]⟩,xS ⟨#[98,50]⟩,xS ⟨#[110,97,109,101]⟩,xS ⟨#[110,101,120,116,95,111,110,101]⟩,xS ⟨#[107,105,100,115]⟩,xS ⟨#[120]⟩] 9)).alloc
  (xK #[xS ⟨#[110,111,100,101]⟩,xS ⟨#[105,116,101,109]⟩,xS ⟨#[117,115,101,114]⟩,xS ⟨#[112,97,103,101,95,49]⟩,xS ⟨#[108,101,97,102]⟩,xS ⟨#[113]⟩] 9):=⟨_,rfl⟩
 rw[<-hW]
 obtain⟨b0,b1,b2,b3,hz,hb⟩:=Uz hW
 clear hW
 have hz':w.heap.size+3<W.heap.size:=by omega
 have fS:aU W (w.heap.size+1+1+1) (aH x.name 6) (xS (Oi (aH x.name 6))):=cell_of_heap b3 (SK hp)
 have B0:=af b0;clear b0;have B1:=af b1;clear b1;have B2:=af b2;clear b2;have HZ:=af hz;clear hz;have HB:=af hb;clear hb
 clear b3
 go_wp2_with fail
 obtain⟨nm,lH⟩:=cM (Oi (aH x.name 6))
 rw[<-lH]
 have oZ:=af (show nm∈nA by rw[lH];exact Oj hp)
 clear lH fS
 have QS:Hd (∀i,(M i\/(w.heap.size<=i/\i<=W.heap.size))->i<W.heap.size+1):=λi h=>by rcases h with h|h;have:=hM i h;omega;omega
 go_loopg [5,6,7,8,9]6(λg iv _ _ _ _ wr=>∃(k:Nat)(jY:an)(fs:List ay),k<=n/\k<=6/\g=6-k/\iv=xI k/\fs.length<=k/\Hd (gG fs/\(0<k->0<fs.length))/\Hd (aP (λi=>M i\/(w.heap.size<=i/\i<=W.heap.size)) (W.heap.size+1) 138 wr jY fs)/\Hd (aq W wr)/\Hd (dY wr W (xK #[xS nm,jY] 101)))
 case atStart=>exact⟨0,xL none 0 0,[],Qbf _,by omega,rfl,rfl,bq,by {have h:gG []/\(0<0->0<([]:List ay).length):=⟨⟨λf h=>(by cases h),λj f h=>(by simp at h)⟩,λh=>absurd h (by omega)⟩;exact h},by exact(aP.nil _ _ _ _),by exact bO,by {have h:=Qbh W (xK #[xS nm,xL none 0 0] 101);exact h}⟩
 case round=>
  obtain⟨k,jY,fs,hk,hk6,rfl,rfl,bR,HG,HA,HW,GS⟩:=hrel
  have hsz:W.heap.size<wr.heap.size:=(Qaa.1 GS.o).1
  obtain⟨a',c',rfl,iB,jh⟩:=HA.o.open_
  obtain⟨g0,g1⟩:=ah ((HW.o.block w.heap.size (by omega)).trans B0.o)
  obtain⟨g2,g3⟩:=ah GS.o
  have aO:Hd (cI wr (w.heap.size+1) (xK #[xS ⟨#[]⟩,xL none 0 0] 101)):=(HW.o.block (w.heap.size+1) (by omega)).trans B1.o
  obtain⟨g4,g5⟩:=ah aO.o
  obtain⟨f4,f5⟩:=nu aO.o
  obtain⟨f2,f3⟩:=nu GS.o
  have mA:Hd (∀W',W'=(wr.setCell ⟨w.heap.size+1,0,none⟩ (xS nm)).setCell ⟨w.heap.size+1,1,none⟩ (xL a' fs.length c')->(∃c,iQ c/\(0<k->0<c.fields.length)/\bS M W' (.agg #[xS nm,xL a' fs.length c']) c)/\aq w W'):=λW' iL=>by
   refine⟨⟨⟨nm,fs⟩,HG.o.1.cls (by omega) oZ.o,HG.o.2,_,rfl,_,rfl,((HA.o.slice QS.o).ev ?_),cz (hU nm oZ.o).2⟩,?_⟩
   .rw[iL]
    exact((Ev.eG wr (λi h=> .inl h)).setCell (.inl (.inr ⟨by simp,by simp;omega⟩)) _).setCell (.inl (.inr ⟨by simp,by simp;omega⟩)) _
   .rw[iL]
    exact((HB.o.trans (HW.o.mono (by omega))).setCell (by simp) _).setCell (by simp) _
  by_cases aX:k<n
  .by_cases hl6:k<6
   .obtain⟨b,off,rfl,Dl,cw,aG⟩:=HC.o (by omega)
    obtain⟨r,hr⟩:=dQ x.fields k (by rw[HN.o];exact aX)
    obtain⟨cs,⟨rfl,se,K7,hr3⟩,bD⟩:=aG k r hr
    have gw:∀(j:Nat)(u:an),[Value.int .i64 r.name,xI r.kind,xI r.of,xB r.indexed][j]? =some u->aU wr b (off+k*4+j) u:=λj u hu=>(HW.o.cell (p:=⟨b,off+k*4+j,none⟩) (by show b<W.heap.size;omega)).trans ((HB.o.cell (p:=⟨b,off+k*4+j,none⟩) cw).trans (bD j u hu))
    have q0:aU wr b (off+k*4) (xI r.name):=gw 0 _ rfl
    have q1:=gw 1 _ rfl
    have q2:=gw 2 _ rfl
    have q3:=gw 3 _ rfl
    have GM:b≠w.heap.size:=by omega
    have hpn:=cq r.name 6 (by omega)
    have YP:=cq r.kind 5 (by omega)
    have hpo:=cq r.of 4 (by omega)
    have qdp:aU wr (w.heap.size+1+1) (aH r.name 6) (xS (UB (aH r.name 6))):=cell_of_heap ((HW.o.block (w.heap.size+2) (by omega)).trans B2.o) (VH hpn)
    clear aG bD gw hr
    have pZ:=af se;clear se;have zY:=af K7;clear K7;have HR3:=af hr3;clear hr3
    go_upto_region 7 with fail
    go_cut [7](λs7 wx=>s7=xP (wr.heap.size+1)/\wx=((wr.alloc (xK #[xI r.name,xI r.kind,xI r.of,xB r.indexed] 166)).alloc (xK #[xS (UB (aH r.name 6)),xI (1+(aH r.kind 5:Int)),xI 0,xB false] 138)).drew)
    case first=>
     have z1:(0:Int)<=(aH r.name 6:Int):=Qba _
     have z2:(aH r.name 6:Int)<6:=by omega
     have z3:IntKind.i64.wrap (1+(aH r.kind 5:Int))=1+(aH r.kind 5:Int):=Qbe _ (by omega)
     go_region_held3(λw'=>w'.cell? ⟨w.heap.size+1+1,aH r.name 6,none⟩=some (xS (UB (aH r.name 6)))/\w'.cell? ⟨wr.heap.size,0,none⟩=some (xI r.name)/\w'.cell? ⟨wr.heap.size,1,none⟩=some (xI r.kind))
      (first|go_keep)
      (first|(go_at_call 78;refine dJ (eS _ _ _ (by first|exact pZ.o|exact zY.o) (by omega) (by omega)) ?_))
     all_goals(go_wp2_with fail;go_meet;exact⟨rfl,rfl⟩)
    case rest=>
     obtain⟨rfl,rfl⟩:=hcut
     obtain⟨f,hf⟩:=cM (sG r)
     have Q2:=af (show bC f=true/\f.name∈mn by rw[hf];exact yq r)
     have Le:Hd (idxOf (λg:ay=>bV g.name f.name) fs<0->∀W':aj,aq wr W'->xC 79 #[.agg #[xS nm,xL a' fs.length c'],xS f.name] W' λe w'=>e=xR (.tuple #[xI 0,xB false])/\Below W'.heap.size W' w'):=λh W' hb=>D8 _ _ W' fs nm f.name ((HA.o.below hb).slice QS.o) h
     have qdq:Hd (¬idxOf (λg:ay=>bV g.name f.name) fs<0->∀W':aj,aq wr W'->xC 79 #[.agg #[xS nm,xL a' fs.length c'],xS f.name] W' λe w'=>e=xR (.tuple #[xI (idxOf (λg:ay=>bV g.name f.name) fs),xB true])/\Below W'.heap.size W' w'):=λh W' hb=>Cp _ _ W' fs nm f.name ((HA.o.below hb).slice QS.o) h
     have HNZ:=af (show f.name=UB (aH r.name 6)by rw[hf];rfl)
     have NQ:=af (show f.type.kind=1+(aH r.kind 5:Int)by rw[hf];rfl)
     have HOZ:=af (show f.type.of=if aH r.kind 5=4 then 1+(aH r.of 4:Int)else 0 by rw[hf];rfl)
     have HIZ:=af (show f.indexed=(r.indexed&&decide (1+(aH r.kind 5:Int)<=3))by rw[hf];rfl)
     clear hf qdp
     rw[<-HNZ.o]
     rw[<-NQ.o]at HIZ⊢
     go_upto_if 49 with fail
     go_cut [](λwx=>wx=((wr.alloc (xK #[xI r.name,xI r.kind,xI r.of,xB r.indexed] 166)).alloc (xK #[xS f.name,xI f.type.kind,xI f.type.of,xB false] 138)).drew)
     case first=>
      by_cases h4:aH r.kind 5=4
      .have e5:(f.type.kind==5)=true:=by rw[NQ.o];simp;omega
       rw[if_pos h4]at HOZ
       clear h4
       go_wp2_with(go_at_call 78;refine dJ (eS _ _ _ HR3.o (by omega) (by omega)) ?_)
       go_meet
       rw[HOZ.o]
      .have e5:(f.type.kind==5)=false:=by rw[NQ.o];simp;omega
       rw[if_neg h4]at HOZ
       clear h4
       go_wp2
       go_meet
       rw[HOZ.o]
     case rest=>
      obtain rfl:=hcut
      go_upto_region 10 with fail
      go_cut [](λwx=>wx=((wr.alloc (xK #[xI r.name,xI r.kind,xI r.of,xB r.indexed] 166)).alloc (xK #[xS f.name,xI f.type.kind,xI f.type.of,xB f.indexed] 138)).drew)
      case first=>
       by_cases h3:f.type.kind<=3
       .rw[decide_eq_true h3,Bool.and_true]at HIZ
        cases QD:r.indexed
        all_goals
         have Q3:=af QD;clear QD
         go_wp2
         go_meet
         rw[HIZ.o,Q3.o]
       .rw[decide_eq_false h3,Bool.and_false]at HIZ
        cases QD:r.indexed
        all_goals
         have Q3:=af QD;clear QD
         go_wp2
         go_meet
         rw[HIZ.o,Q3.o]
      case rest=>
       obtain rfl:=hcut
       by_cases hm:idxOf (λg:ay=>bV g.name f.name) fs<0
       .have HM:=af hm;clear hm
        go_wp2_with fail
        refine cG (Le.o HM.o _ (by exact(bO.alloc (by simp) _).drew)) λw1 aC=> ?_
        have dB:=aC.size
        simp at dB
        have U6:Hd (aq wr w1):=(bO.alloc (by simp) _).drew.trans (aC.mono (by simp;omega))
        have lI:=af ((aC.block (wr.heap.size+1) (by simp)).trans (jM (w:=wr) rfl).2.1)
        obtain⟨p0,p1,p2,p3⟩:=ae lI.o
        have rA:Hd (dY w1 W (xK #[xS nm,xL a' fs.length c'] 101)):=(U6.o.block W.heap.size hsz).trans GS.o
        obtain⟨p4,p5⟩:=ah rA.o
        have Dq:=af (HA.o.below U6.o)
        have qdr:Hd (aq W w1):=HW.o.trans (U6.o.mono (by omega))
        clear aC
        go_wp2_with(at_builtin
                    refine aZ (α:=ay) rfl _ _ _ rfl _ _ 138 i0 _ 40 underlying99 dz dX cY dA rfl (by decide) _ fs rfl (Dq.o.alloc _) (λ_=>True) _ _ f rfl (b9 _ _ _ _ rfl trivial) ?c1 ?c2 ?c3 ?c4 ?_
                    case c1=>exact⟨rfl,cz (sF _ Q2.o.2).2⟩
                    case c2=>unfold maxLen;omega
                    case c3=>omega
                    case c4=>simp;omega
                    intro a2 c2 w2 bu dr aY
                    have AY:Hd (dY w2 W (xK #[xS nm,xL a' fs.length c'] 101)):=(aY.block W.heap.size (by omega)).trans ((Qcb w1 _ W.heap.size (by omega)).trans rA.o)
                    obtain⟨r4,r5⟩:=ah AY.o
                    have r6:=ag AY.o 1
                    have kj:=af bu
                    have aL:Hd (aq W w2):=(qdr.o.alloc (by omega) _).trans (aY.mono (by omega))
                    clear bu dr aY)
        go_roundg(6-(k+1))
        case measure=>omega
        case rel=>
         refine⟨k+1,xL a2 (fs.length+1) c2,fs++[f],by omega,by omega,rfl,by go_num,by simp;omega,?_,?_,?_,?_⟩
         .exact(show gG (fs++[f])/\(0<k+1->0<(fs++[f]).length)from⟨HG.o.1.snoc Q2.o.2 Q2.o.1 (by have:=sn (λg:ay=>bV g.name f.name) fs;have:=HM.o;omega),λ_=>by simp⟩)
         .exact(show aP _ _ _ _ _ (fs++[f])from kj.o.uz (.inr ⟨by simp;omega,by simp⟩) (by simp) _)
         .exact(show aq W _ from aL.o.setCell bq _)
         .exact Qca w2 W.heap.size 1 _ _ _ AY.o
       .have HM:=af hm;clear hm
        go_wp2_with fail
        refine cG (qdq.o HM.o _ (by exact(bO.alloc (by simp) _).drew)) λw1 aC=> ?_
        have U6:Hd (aq wr w1):=(bO.alloc (by simp) _).drew.trans (aC.mono (by simp;omega))
        clear aC
        go_wp2
        go_roundg(6-(k+1))
        case measure=>omega
        case rel=>exact⟨k+1,_,fs,by omega,by omega,rfl,by go_num,by omega,(show gG fs/\(0<k+1->0<fs.length)from⟨HG.o.1,λ_=>by have:=xV (λg:ay=>bV g.name f.name) fs;have:=HM.o;omega⟩),HA.o.below U6.o,(HW.o.trans (U6.o.mono (by omega))),(U6.o.block W.heap.size hsz).trans GS.o⟩
   .go_wp2_with fail
    refine Qae (v:= .agg #[xS nm,xL a' fs.length c']) (by simp[results,results43,go_sem,g4,g5]) rfl ⟨_,rfl,?_⟩
    obtain⟨⟨c,h1,h2,h3⟩,h4⟩:=mA.o _ rfl
    exact⟨⟨c,h1,λh=>h2 (by omega),h3⟩,h4⟩
  .go_wp2_with fail
   refine Qae (v:= .agg #[xS nm,xL a' fs.length c']) (by simp[results,results43,go_sem,g4,g5]) rfl ⟨_,rfl,?_⟩
   obtain⟨⟨c,h1,h2,h3⟩,h4⟩:=mA.o _ rfl
   exact⟨⟨c,h1,λh=>h2 (by omega),h3⟩,h4⟩
end Go.Proofs.YtccpcfcochffcaaGreatDoor
