/- A part of OpReads's proof; no condition. -/
import Derived.Test.YtepaofffbkfodaaGreatDoorM05
set_option linter.all false
set_option maxHeartbeats 8000000
set_option maxRecDepth 100000
namespace Go.Proofs.YtepaofffbkfodaaGreatDoor
open Tryz
open Go.RowKit
variable{f:az}{k g K yc:Nat}{w W w3:aj}{M:aN}{t:TypeId}{c0 c1 c2 cv v:an}{c d:ax}{x:aC}{ls:List aH}{ya:fA}{nm:aM}{o0 o1 o2 o:Obj}
def wY(x:aC)(f:az):(cE x f).length<=2:=by unfold cE;repeat(first|split|simp)
theorem Dm(x:aC):∀l:List az,(l.flatMap (cE x)).length<=2*l.length
 |[]=>by simp
 |f::r=>by rw[List.flatMap_cons,Qda];have:=wY x f;have:=Dm x r;have:(f::r).length=r.length+1:=rfl;omega
def Ln(x:aC){l:List az}(h:l[k]? =some f):(l.take k).flatMap (cE x)++cE x f=(l.take (k+1)).flatMap (cE x):=by
 rw[Qbb,h,List.flatMap_append];simp
def cU(n:aM)(v:an):Obj:=xK #[xS n,v] 47
def tA(x:aC):Obj:=xK #[xI x.kind,xS x.field,xS x.name,xS x.more,xI x.type.kind,xI x.type.of,xS x.expr,xS x.other] 51
def Ve(w2:aj)(nm:aM)(fs:List az)(a:fA)(n cap:Nat)(wr:aj):Prop:=
 fs.length=n/\aK (λi=>i<w2.heap.size+1) (w2.heap.size+1) 60 wr (xL a n cap) fs/\Bx w2 [cU nm (xL a n cap)] wr
def wZ(c:ax)(x:aC)(hp:qM c x)(hc:aP c=true)(fV:c.name.size<=maxLen)(hb:iZ c x=true)(M:aN)(w:aj)(hM:Bd M w)(fv:an)(cq:ab M w fv c.fields):
 xC 181 #[.agg #[xS c.name,fv], .agg #[xI x.kind,xS x.field,xS x.name,xS x.more,xI x.type.kind,xI x.type.of,xS x.expr,xS x.other]] w
  (cg w λv w'=>∃jA,v= .tuple #[.agg #[xS c.name,jA],xI 0]/\ab M w' jA (bZ c x).fields):=by
 obtain⟨i0,ed,ej,dO,er⟩:=info_parts iz;have h8:=((bo c).1 hc).2.1;have hk:x.kind=1\/x.kind=2\/x.kind=3\/x.kind=4\/x.kind=5\/x.kind=6:=by have:=hp.sh;simp only[np]at this;omega
 have HR:Hd (∀W fv,ab M W fv c.fields->_):=λW fv h=>ku M fv W c h fV hc;have HC:Hd (∀W fv,Bd M W->ab M W fv c.fields->_):=λW fv h1 h2=>uQ c x hp hc fV true hb M W h1 fv h2;have HTU:Hd (∀(f:az)(N:aN)(W:aj),f.name.size<=maxLen->Bd N W->_):=λf N W h1 h2=>GN x f hk h1 hp.s2 hp.s3 N W h2;have gE:Hd (x.name.size<=maxLen):=hp.s2;have iL:=af cq;obtain⟨fa,fc,rfl,Jq,M9,ay⟩:=cq.open_;have zN:=af ay;clear hp cq ay hb;have Ni:=af (λ(k:Nat)(f:az)(h:c.fields[k]? =some f)=>Ln x h);have uC:=af (λ(k:Nat)=>Dm x (c.fields.take k));have Qz:=af (wY x);have HAD:Hd (∀(fs:List az),(c.fields.take c.fields.length).flatMap (cE x)=fs->(x.kind=1->(bZ c x).fields=fs++[⟨x.name,x.type,false⟩])/\(x.kind≠1->(bZ c x).fields=fs)):=λfs h=>by
  rw[List.take_length]at h;unfold bZ JQ;rw[h];exact⟨λh=>by simp[h],λh=>by simp[h]⟩
 have Wi:Hd (∀f,∃ts,cE x f=ts):=λf=>⟨_,rfl⟩;have HCH:Hd (∀(o:Obj),tA x=o->o=xK #[xI x.kind,xS x.field,xS x.name,xS x.more,xI x.type.kind,xI x.type.of,xS x.expr,xS x.other] 51):=λo h=>h.symm;go_enter func181,ntmps181;go_wp2_with fail;refine bY (HR.o _ _ (iL.o.below (Bx.gO _ _ _ _).1)) λw1 aF=> ?_;have nI:Hd (Bx w [cU c.name (xL fa c.fields.length fc),tA x,cU ⟨#[]⟩ (xL none 0 0)] w1):=(Bx.gO w _ _ _).below aF;clear aF;obtain⟨c0,c1⟩:=ah (nI.o.bG rfl);obtain⟨a0,a1,a2,a3,a4,a5,a6,a7⟩:=ak (nI.o.bU rfl);go_wp2_with fail;refine bY (HC.o _ _ (hM.below nI.o.1) (iL.o.below nI.o.1)) λw2 bC=> ?_;have fO:Hd (Bx w [cU c.name (xL fa c.fields.length fc),tA x,cU ⟨#[]⟩ (xL none 0 0)] w2):=nI.o.below bC;clear bC c0 c1 a0 a1 a2 a3 a4 a5 a6 a7;obtain⟨c0,c1⟩:=ah (fO.o.bG rfl);have s2:=fO.o.2.1;simp only[Qcc,Qcd]at s2;go_wp2;go_loopg [7]c.fields.length(λg iv wr=>∃(k m cap:Nat)(a:fA),k<=c.fields.length/\g=c.fields.length-k/\iv=xI k/\Hd (Ve w2 c.name ((c.fields.take k).flatMap (cE x)) a m cap wr));case atStart=>exact⟨0,0,0,none,Qbf _,rfl,rfl,(show Ve _ _ _ _ _ _ _ from⟨rfl,aK.nil _ _ _ _,Bx.eD w2 _⟩)⟩
 case round=>
  obtain⟨k,m,cap,a,Nc,rfl,rfl,HS⟩:=hrel;have HW:Hd (Bx w [cU c.name (xL fa c.fields.length fc),tA x,cU ⟨#[]⟩ (xL none 0 0)] wr):=fO.o.below HS.o.2.2.1;clear c0 c1;obtain⟨c0,c1⟩:=ah (HW.o.bG rfl);obtain⟨a0,a1,a2,a3,a4,a5,a6,a7⟩:=ak (HW.o.bU rfl);obtain⟨o0,o1⟩:=ah (HS.o.2.2.bG rfl);have sr:=HS.o.2.2.2.1;simp only[Qcc,Qcd]at sr;have CR:m<=2*c.fields.length:=by
   have:=uC.o k;rw[HS.o.1,Qdb]at this;omega
  by_cases bu:k<c.fields.length
  .obtain⟨b,off,rfl,wh,cR,aL⟩:=zN.o (by omega);obtain⟨f,hf⟩:=eB c.fields k bu;obtain⟨cs,⟨rfl,WG⟩,bJ⟩:=aL k f hf;have Nj:Hd (∀W,aq w W->bt W b (off+k*4) (xS f.name)/\bt W b (off+k*4+1) (xI f.type.kind)/\bt W b (off+k*4+2) (xI f.type.of)/\bt W b (off+k*4+3) (xB f.indexed)):=λW hb=>⟨(hb.cell (p:=⟨b,off+k*4,none⟩) cR).trans (bJ 0 _ rfl),(hb.cell (p:=⟨b,off+k*4+1,none⟩) cR).trans (bJ 1 _ rfl),(hb.cell (p:=⟨b,off+k*4+2,none⟩) cR).trans (bJ 2 _ rfl),(hb.cell (p:=⟨b,off+k*4+3,none⟩) cR).trans (bJ 3 _ rfl)⟩;obtain⟨q0,q1,q2,q3⟩:=Nj.o wr HW.o.1;have qan:=af (Ni.o k f hf);obtain⟨ts,vJ⟩:=Wi.o f;have zg:=af vJ;have hT2:ts.length<=2:=by rw[<-vJ];exact Qz.o f
   clear aL bJ hf vJ;have BDM:Hd (Bd (bg (xL a m cap) (λi=>i<w2.heap.size+1)) wr.drew):=λi h=>by rcases h with h|h;(have:i<w2.heap.size+1:=h);(show i<wr.heap.size);omega;exact(HS.o.2.1.cJ i h).2
   have br:=af (HTU.o f _ _ WG BDM.o);rw[zg.o]at br;go_upto_region 9 with fail;go_region_law(first
    |(go_simp;go_at_call 244;refine br.o.mono ?_;rintro en w3⟨_,rfl,bI,bP⟩;obtain⟨ya,yc,rfl,_⟩:=bI.open_;have gp:=af bI;have bO:=af bP;have jC:Hd (Bx w2 [cU c.name (xL a m cap)] w3):=HS.o.2.2.drew.below bP;have HA3:Hd (aK (λi=>i<w2.heap.size+1) (w2.heap.size+1) 60 w3 (xL a m cap) ((c.fields.take k).flatMap (cE x))):=(HS.o.2.1.below ⟨rfl,rfl,rfl,bN,λ_ _=>rfl⟩:aK _ _ _ wr.drew _ _).below bP;have ql:Hd (Bx w [cU c.name (xL (some ⟨b,off,none⟩) c.fields.length fc),tA x,cU ⟨#[]⟩ (xL none 0 0)] w3):=fO.o.below jC.o.1;have b0:=(ah (ql.o.bG rfl)).1;have b1:=(ah (ql.o.bG rfl)).2;have p1:ox w3 w2 1 (xL a m cap):=(ah (jC.o.bG rfl)).2;have s3:=jC.o.2.1;simp only[Qcc,Qcd]at s3;clear bI bP)
    |(refine tQ (α:=az) rfl _ _ _ rfl (λi=>i<w2.heap.size+1) (w2.heap.size+1) 60 i0 _ 40 underlying45 ed ej dO er rfl (by decide) (.slice a m cap) _ rfl HA3.o _ ts rfl gp.o (by rw[HS.o.1];unfold maxLen;omega) (by rw[HS.o.1];omega) (by omega) ?_;rw[HS.o.1];intro a4 c4 w4 FA WH eA;have QP:=af FA;have qG:Hd (Bx w2 [cU c.name (xL a m cap)] w4):=jC.o.du eA (by simp);have l3:ox w4 w2 1 (xL a m cap):=(ah (qG.o.bG rfl)).2;have l4:w4.frozen? ⟨w2.heap.size,1,none⟩=false:=ag (qG.o.bG rfl) 1;clear FA WH eA));all_goals
    go_wp2;go_roundg(c.fields.length-(k+1));case measure=>omega
    case rel=>
     refine⟨k+1,m+ts.length,c4,a4,by omega,rfl,by go_num,?_⟩;refine(show Ve _ _ _ _ _ _ _ from⟨?_,?_,?_⟩)
     .rw[<-qan.o,Qda,HS.o.1,zg.o]
     .rw[<-qan.o,zg.o];exact QP.o.vz (p:=⟨w2.heap.size,1,none⟩) (by simp) (by simp) _
     .exact qG.o.set 0 1 rfl _
  .have Yp:k=c.fields.length:=by omega
   by_cases oF:x.kind=1
   .have ou:(x.kind==1)=true:=by simpa using oF
    have QI:=af (show(bZ c x).fields=(c.fields.take k).flatMap (cE x)++[⟨x.name,x.type,false⟩]by rw[Yp];exact((HAD.o _ rfl).1 oF));go_wp2_with(at_builtin;refine aW (α:=az) rfl _ _ _ rfl (λi=>i<w2.heap.size+1) (w2.heap.size+1) 60 i0 _ 40 underlying45 ed ej dO er rfl (by decide) (.slice a m cap) _ rfl (HS.o.2.1.alloc _) (λ_=>True) _ _ (⟨x.name,x.type,false⟩:az) rfl (cD _ _ _ _ rfl trivial) ⟨rfl,gE.o⟩ (by rw[HS.o.1];unfold maxLen;omega) (by rw[HS.o.1];omega) (by simp;omega) ?_;rw[HS.o.1];intro a4 c4 w4 FA WH eA;have QP:=af FA;have qG:Hd (Bx w2 [cU c.name (xL a m cap)] w4):=(HS.o.2.2.alloc _).du eA (by simp);have mf:Hd (Bx w [cU c.name (xL fa c.fields.length fc),tA x,cU ⟨#[]⟩ (xL none 0 0)] w4):=fO.o.below qG.o.1;have l3:ox w4 w2 1 (xL a m cap):=(ah (qG.o.bG rfl)).2;have l4:w4.frozen? ⟨w2.heap.size,1,none⟩=false:=ag (qG.o.bG rfl) 1;have l5:ox w4 w2 0 (xS c.name):=(ah (qG.o.bG rfl)).1;have r0:=(ah (mf.o.fR rfl)).1;have r1:=(ah (mf.o.fR rfl)).2;obtain⟨g0,g1⟩:=mV (mf.o.fR rfl);have ne2:w.heap.size+1+1≠w2.heap.size:=by omega
                                                                                                                                               clear FA WH eA);refine Qae (v:= .tuple #[.agg #[xS c.name,xL a4 (m+1) c4],xI 0]) (by simp[results,results181,go_sem,r0,r1]) rfl ⟨_,rfl,⟨_,rfl,?_⟩,?_⟩
    .rw[QI.o];exact(QP.o.slice (λi h=>h)).ev ((((Ev.dD (M:=λi=>i<w2.heap.size+1) (N:=M) w4 (λi hi=>by have:=hM i hi;omega)).setCell (.inl (by show w2.heap.size<w2.heap.size+1;omega)) _).setCell (.inl (by show w.heap.size+1+1<w2.heap.size+1;omega)) _).setCell (.inl (by show w.heap.size+1+1<w2.heap.size+1;omega)) _)
    .exact((mf.o.1.setCell (by show w.heap.size<=w2.heap.size;omega) _).setCell (by show w.heap.size<=w.heap.size+1+1;omega) _).setCell (by show w.heap.size<=w.heap.size+1+1;omega) _
   .have ou:(x.kind==1)=false:=by simpa using oF
    have QI:=af (show(bZ c x).fields=(c.fields.take k).flatMap (cE x)by rw[Yp];exact((HAD.o _ rfl).2 oF));obtain⟨r0,r1⟩:=ah (HW.o.fR rfl);obtain⟨g0,g1⟩:=mV (HW.o.fR rfl);have ne2:w.heap.size+1+1≠w2.heap.size:=by omega
    go_wp2_with fail;refine Qae (v:= .tuple #[.agg #[xS c.name,xL a m cap],xI 0]) (by simp[results,results181,go_sem,r0,r1]) rfl ⟨_,rfl,⟨_,rfl,?_⟩,?_⟩
    .rw[QI.o];exact(HS.o.2.1.slice (λi h=>h)).ev (((Ev.dD (M:=λi=>i<w2.heap.size+1) (N:=M) wr (λi hi=>by have:=hM i hi;omega)).setCell (.inl (by show w.heap.size+1+1<w2.heap.size+1;omega)) _).setCell (.inl (by show w.heap.size+1+1<w2.heap.size+1;omega)) _)
    .exact(HW.o.1.setCell (by show w.heap.size<=w.heap.size+1+1;omega) _).setCell (by show w.heap.size<=w.heap.size+1+1;omega) _
def ew(M:aN)(w:aj)(n:Nat):Nat->Prop:=λi=>M i\/(w.heap.size<=i/\i<w.heap.size+n)
def dF {n:Nat}(h:aq w W):Ev M w (ew M w n) W:=⟨ai.ao h,λi hi=>hi.imp_right λh=>h.1⟩
def dN {n:Nat}(hM:Bd M w)(h:w.heap.size+n<=W.heap.size):Bd (ew M w n) W:=λi hi=>by rcases hi with hi|hi;(have:=hM i hi;omega);omega
def fj {n:Nat}(W:aj):Ev (ew M w n) W M W:=Ev.dD W λi hi=> .inl hi
def cI(n:aM)(fv cv:an):Obj:=xK #[xS n,fv,cv] 72
def aD(h:W.heap[g]? =some (xK #[c0,c1,c2] t)):W.cell? ⟨g,0,none⟩=some c0/\W.cell? ⟨g,1,none⟩=some c1/\W.cell? ⟨g,2,none⟩=some c2:=by simp[World.cell?,h]
theorem cY.name {l:List aC}(h:cY c l d):d.name=c.name:=by
 induction h with
 |nil c=>rfl
 |cons c d x l _ _ _ ih=>exact ih
def xb {e:ax}{l:List aC}(h:cY c (l.take k) e)(ha:cY c l d)(hx:l[k]? =some x):iR e x/\iZ e x=true/\cY c (l.take (k+1)) (bZ e x):=by
 obtain⟨e',h1,h2⟩:=ha.split k;obtain rfl:=h.eq h1;have hd:l.drop k=x::l.drop (k+1):=by
  obtain⟨hl,he⟩:=Qad.1 hx;rw[List.drop_eq_getElem_cons hl,he]
 rw[hd]at h2;cases h2 with
 |cons _ _ _ _ g b _=>exact⟨g,b,by rw[Qbb,hx];exact h.snoc g b⟩
def uS:(Tryz.prog.info? 51).map (λi=>(i.zero,i.size,i.bytes))=some (some (.agg #[xI 0,xS ⟨#[]⟩,xS ⟨#[]⟩,xS ⟨#[]⟩,xI 0,xI 0,xS ⟨#[]⟩,xS ⟨#[]⟩]),8,104):=by kernel_rfl
def oP {l:List aC}(h:ab M w cv l)(hx:l[k]? =some x):∃b off cap,cv=xL (some ⟨b,off,none⟩) l.length cap/\b<w.heap.size/\∀W,aq w W->bt W b (off+k*8) (xI x.kind)/\bt W b (off+k*8+1) (xS x.field)/\bt W b (off+k*8+2) (xS x.name)/\bt W b (off+k*8+3) (xS x.more)/\bt W b (off+k*8+4) (xI x.type.kind)/\bt W b (off+k*8+5) (xI x.type.of)/\bt W b (off+k*8+6) (xS x.expr)/\bt W b (off+k*8+7) (xS x.other):=by
 obtain⟨a,cap,rfl,hl,_,hc⟩:=h.open_;have hk:=(Qad.1 hx).1;obtain⟨b,off,rfl,_,hb,aL⟩:=hc (by omega);obtain⟨cs,⟨rfl,_⟩,bJ⟩:=aL k x hx;refine⟨b,off,cap,rfl,hb,λW hB=> ?_⟩;have g:∀j u,([xI x.kind,xS x.field,xS x.name,xS x.more,xI x.type.kind,xI x.type.of,xS x.expr,xS x.other]:List an)[j]? =some u->bt W b (off+k*8+j) u:=λj u hu=>(hB.cell (p:=⟨b,off+k*8+j,none⟩) hb).trans (bJ j u hu);exact⟨g 0 _ rfl,g 1 _ rfl,g 2 _ rfl,g 3 _ rfl,g 4 _ rfl,g 5 _ rfl,g 6 _ rfl,g 7 _ rfl⟩
def Lo(M:aN)(w:aj)(l:aH)(os:List Obj)(E:Nat)(k:Nat)(nm:aM)(a:fA)(n cap:Nat)(wr:aj):Prop:=
 ∃e:ax,cY l.first (l.changes.take k) e/\e.name=nm/\e.fields.length=n/\ab (ew M w 3) wr (xL a n cap) e.fields/\Bx w (os++[cU nm (xL a n cap)]) wr
def Lp(l:aH)(d:ax)(hc:cG l.first)(QG:cY l.first l.changes d)(h5:l.changes.length<=12)(M:aN)(w:aj)(hM:Bd M w)(fv cv:an)(cq:ab M w fv l.first.fields)(bJ:ab M w cv l.changes):
 xG 116 #[.agg #[xS l.first.name,fv,cv]] w λv w'=>∃jA,v= .agg #[xS l.first.name,jA]/\ab M w' jA d.fields:=by
 have qp:Hd (∀(c:ax)(x:aC)(W:aj)(fv:an),iR c x->cG c->iZ c x=true->Bd (ew M w 3) W->ab (ew M w 3) W fv c.fields->_):=λc x W fv h1 h2 h3 h4 h5=>wZ c x h1.pre h2.right (cF h2.small) h3 (ew M w 3) W h4 fv h5;have gM:Hd (∀k e x,cY l.first (l.changes.take k) e->l.changes[k]? =some x->cG e/\iR e x/\iZ e x=true/\cY l.first (l.changes.take (k+1)) (bZ e x)):=λk e x h1 h2=>⟨h1.ok hc,xb h1 QG h2⟩;have WI:Hd (∀e,cY l.first (l.changes.take l.changes.length) e->e=d):=λe h=>by rw[List.take_length]at h;exact h.eq QG
 have qk:Hd (∀k x,l.changes[k]? =some x->_):=λk x h=>oP bJ h;have iL:=af cq;obtain⟨fa,fc,rfl,Jq,M9,_⟩:=cq.open_;obtain⟨ca,cc,rfl,WJ,WK,_⟩:=bJ.open_;obtain⟨⟨nm,fs⟩,chs⟩:=l;dsimp only at*;go_enter func116,ntmps116;go_wp2;go_loopg [4]chs.length(λg iv wr=>∃(k n cap:Nat)(a:fA),k<=chs.length/\g=chs.length-k/\iv=xI k/\Hd (Lo M w ⟨⟨nm,fs⟩,chs⟩ [cI nm (xL fa fs.length fc) (xL ca chs.length cc),cU ⟨#[]⟩ (xL none 0 0)] 2 k nm a n cap wr));case atStart=>exact⟨0,fs.length,fc,fa,Qbf _,rfl,rfl,(show Lo _ _ _ _ _ _ _ _ _ _ _ from⟨⟨nm,fs⟩,by simpa using cY.nil _,rfl,rfl,iL.o.ev (dF (Bx.gO w _ _ _).1),Bx.gO w _ _ _⟩)⟩
 case round=>
  obtain⟨k,n,cap,a,Nc,rfl,rfl,HS⟩:=hrel;obtain⟨e,WL,QQ,WM,bI,tt⟩:=HS.o;have bW:=af tt;obtain⟨l0,l1,l2⟩:=aD (bW.o.bG rfl);obtain⟨o0,o1⟩:=ah (bW.o.fR rfl);have sr:=bW.o.bF;simp only[Qcc,Qcd,Qda]at sr;by_cases bu:k<chs.length
  .obtain⟨x,hx⟩:=eB chs k bu;obtain⟨b,off,ig,vN,cR,ay⟩:=qk.o k x hx;obtain⟨rfl,rfl⟩:=iB vN;obtain⟨k0,k1,k2,k3⟩:=gM.o k e x WL hx;have vM:=af k3;obtain⟨q0,q1,q2,q3,q4,q5,q6,q7⟩:=ay wr bW.o.1;have br:=af (qp.o e x wr.drew (xL a n cap) k1 k0 k2 (dN (W:=wr.drew) hM (by show _<=wr.heap.size;omega)) (bI.ev ((Ev.refl _ _).drew)));rw[QQ]at br;go_upto_region 5 with fail;go_region_law(first
    |(go_simp;go_at_call 181;refine br.o.mono ?_;rintro en w3⟨_,rfl,⟨jA,rfl,bI⟩,bP⟩;obtain⟨ya,yc,rfl,_⟩:=bI.open_;have gp:=af bI;have bO:Hd (Bx w [cI nm (xL fa fs.length fc) (xL (some ⟨b,off,none⟩) chs.length cc),cU ⟨#[]⟩ (xL none 0 0),cU nm (xL a n cap)] w3):=bW.o.drew.below bP;have p0:=(ah (bO.o.fR rfl)).1;have p1:=(ah (bO.o.fR rfl)).2;obtain⟨f0,f1⟩:=mV (bO.o.fR rfl);clear bI bP));all_goals
    go_wp2;go_roundg(chs.length-(k+1));case measure=>omega
    case rel=>
     refine⟨k+1,(bZ e x).fields.length,yc,ya,by omega,rfl,by go_num,?_⟩;refine(show Lo _ _ _ _ _ _ _ _ _ _ _ from⟨bZ e x,vM.o,QQ,rfl,?_,?_⟩)
     .exact gp.o.ev ((((Ev.refl _ _).setCell (.inl (.inr ⟨by show w.heap.size<=w.heap.size+1+1;omega,by show w.heap.size+1+1<w.heap.size+3;omega⟩)) _).setCell (.inl (.inr ⟨by show w.heap.size<=w.heap.size+1+1;omega,by show w.heap.size+1+1<w.heap.size+3;omega⟩)) _))
     .exact(bO.o.set 2 0 rfl _).set 2 1 rfl _
  .have Yp:k=chs.length:=by omega
   obtain rfl:e=d:=WI.o e (by rw[<-Yp];exact WL);have gp:=af bI;obtain⟨r0,r1⟩:=ah (bW.o.bU rfl);obtain⟨g0,g1⟩:=mV (bW.o.bU rfl);subst WM;go_wp2_with fail;refine Qae (v:= .agg #[xS nm,xL a e.fields.length cap]) (by simp[results,results116,go_sem,r0,r1]) rfl ⟨_,rfl,⟨_,rfl,?_⟩,?_⟩
   .exact gp.o.ev ((((fj wr).setCell (.inl (.inr ⟨by show w.heap.size<=w.heap.size+1;omega,by show w.heap.size+1<w.heap.size+3;omega⟩)) _).setCell (.inl (.inr ⟨by show w.heap.size<=w.heap.size+1;omega,by show w.heap.size+1<w.heap.size+3;omega⟩)) _))
   .exact(bW.o.1.setCell (by show w.heap.size<=w.heap.size+1;omega) _).setCell (by show w.heap.size<=w.heap.size+1;omega) _
def dU(ls:List aH)(s:aM):Int:=idxOf (λl:aH=>cj l.first.name s) ls
def eE(h:ab M w v ls){l:aH}(hx:ls[k]? =some l):∃b off cap fa fc ca cc,v=xL (some ⟨b,off,none⟩) ls.length cap/\b<w.heap.size/\ab M w (xL fa l.first.fields.length fc) l.first.fields/\ab M w (xL ca l.changes.length cc) l.changes/\l.first.name.size<=maxLen/\∀W,aq w W->bt W b (off+k*3) (xS l.first.name)/\bt W b (off+k*3+1) (xL fa l.first.fields.length fc)/\bt W b (off+k*3+2) (xL ca l.changes.length cc):=by
 obtain⟨a,cap,rfl,hl,_,hc⟩:=h.open_;have hk:=(Qad.1 hx).1;obtain⟨b,off,rfl,_,hb,aL⟩:=hc (by omega);obtain⟨cs,⟨fv,cv,rfl,hf,vN,hn⟩,bJ⟩:=aL k l hx;have hf2:=hf;have CO:=vN;obtain⟨fa,fc,rfl,_⟩:=hf2.open_;obtain⟨ca,cc,rfl,_⟩:=CO.open_;refine⟨b,off,cap,fa,fc,ca,cc,rfl,hb,hf,vN,hn,λW hB=> ?_⟩;have g:∀j u,([xS l.first.name,xL fa l.first.fields.length fc,xL ca l.changes.length cc]:List an)[j]? =some u->bt W b (off+k*3+j) u:=λj u hu=>(hB.cell (p:=⟨b,off+k*3+j,none⟩) hb).trans (bJ j u hu);exact⟨g 0 _ rfl,g 1 _ rfl,g 2 _ rfl⟩
def fS(v:an):Obj:=xK #[v] 31
def one_cell(h:W.heap[g]? =some (xK #[c0] t)):W.cell? ⟨g,0,none⟩=some c0:=by simp[World.cell?,h]
def xh(M:aN)(v:an)(w:aj)(ls:List aH)(name:aM)(hs:ab M w v ls)(h8:ls.length<=8)(at_:Int)(is:Bool)(HA:Hd ((if dU ls name<0 then 0 else dU ls name)=at_))(HI:Hd ((!decide (dU ls name<0))=is)):
 xC 49 #[.agg #[v],xS name] w (cr (.tuple #[xI at_,xB is]) w):=by
 have HL:Hd (∀k l,ls[k]? =some l->_):=λk l h=>eE hs h;obtain⟨a,bQ,rfl,cV,hm,_⟩:=hs.open_;clear hs;go_enter func49,ntmps49;go_wp2;go_loopg [4,5,6]ls.length(λg r0 r1 iv wr=>∃k:Nat,k<=ls.length/\g=ls.length-k/\iv=xI k/\r0=xI 0/\r1=xB false/\wr=w.alloc (fS (xL a ls.length bQ))/\Hd (∀y∈ls.take k,cj y.first.name name=false));case atStart=>exact⟨0,Qbf _,rfl,rfl,rfl,rfl,rfl,(show∀y∈_,_ fromλy hy=>by simp at hy)⟩
 case round=>
  obtain⟨k,hk,rfl,rfl,rfl,rfl,rfl,HK⟩:=hrel;have tC:(w.alloc (fS (xL a ls.length bQ))).cell? ⟨w.heap.size,0,none⟩=some (xL a ls.length bQ):=one_cell (Qbh w _);by_cases bu:k<ls.length
  .obtain⟨l,hl⟩:=eB ls k bu;obtain⟨b,off,cap,fa,fc,ca,cc,hv,cR,_,_,_,ay⟩:=HL.o k l hl;obtain⟨rfl,rfl⟩:=iB hv;obtain⟨q0,_,_⟩:=ay (w.alloc (fS (xL (some ⟨b,off,none⟩) ls.length bQ))) bM;clear ay hv;have CC:=af hl;clear hl;by_cases hq:(l.first.name.toList==name.toList)=true
   .have e0:dU ls name=k:=idxOf_hit (p:=λl:aH=>cj l.first.name name) HK.o CC.o hq;have HE0:=af e0;clear e0;go_wp2;go_ret2;exact⟨wG (by rw[<-HA.o,HE0.o,if_neg (by omega)]) (by rw[<-HI.o,HE0.o];simp),bM⟩
   .go_wp2;go_roundg(ls.length-(k+1));case measure=>omega
    case rel=>
     refine⟨k+1,by omega,rfl,by go_num,rfl,rfl,rfl,(show∀y∈_,_ fromλy hy=> ?_)⟩;rw[Qbb,CC.o]at hy;rcases Qch.1 hy with hy|hy
     .exact HK.o y hy
     .simp at hy;subst hy;simpa [cj]using hq
  .go_wp2;go_ret2;have e0:dU ls name= -1:=ng (p:=λl:aH=>cj l.first.name name) (by have:=HK.o;rw[show k=ls.length from by omega,List.take_length]at this;exact this);exact⟨wG (by rw[<-HA.o,e0];rfl) (by rw[<-HI.o,e0];rfl),bM⟩
def GR(nm:aM)(fv:an)(ca:fA)(n cc:Nat)(ver:Int)(h0:0<=ver)(h1:ver<=n)(w:aj):
 xC 120 #[.agg #[xS nm,fv,xL ca n cc],xI ver] w (cr (xB true) w):=by
 go_enter func120,ntmps120;go_wp2;go_ret;exact⟨bz (by first|(simp;done)|(simp;omega)),bM⟩
def Vh(M:aN)(w:aj)(os:List Obj)(nm:aM)(d:ax)(K:Nat)(ya:fA)(yc:Nat)(wx:aj):Prop:=
 wx.heap[K]? =some (cU nm (xL ya d.fields.length yc))/\ab (ew M w 3) wx (xL ya d.fields.length yc) d.fields/\Bx w os wx/\w.heap.size+3<=K
def rX(h:bR w3 K (xK #[c0,c1] t))(a b:an):((w3.setCell ⟨K,0,none⟩ a).setCell ⟨K,1,none⟩ b).heap[K]? =some (xK #[a,b] t):=by
 have h1:=Qca w3 K 0 _ _ a h;have h2:=Qca _ K 1 _ _ b h1;simpa using h2
def Vi(hb:Bx w [o0,o1,o2] w3)(hs:ab (ew M w 3) w3 (xL ya d.fields.length yc) d.fields)(h3:w.heap.size+3<=w3.heap.size):
 Vh M w [o0,o1,o2] nm d w3.heap.size ya yc (w3.alloc (xK #[xS nm,xL ya d.fields.length yc] 47)):=
 ⟨Qbh w3 _,hs.ev ((Ev.refl _ _).alloc _),hb.alloc _,h3⟩
def Vj(hb:Bx w [o0,o1,o2] w3)(hs:ab (λi=>ew M w 3 i\/i=K) w3 (xL ya d.fields.length yc) d.fields)(hz:bR w3 K (cU ⟨#[]⟩ (xL none 0 0)))(h3:w.heap.size+3<=K):
 Vh M w [o0,o1,o2] nm d K ya yc ((w3.setCell ⟨K,0,none⟩ (xS nm)).setCell ⟨K,1,none⟩ (xL ya d.fields.length yc)):=
 ⟨rX hz _ _,(hs.ev (((Ev.refl _ _).setCell (.inl (.inr rfl)) _).setCell (.inl (.inr rfl)) _)).ev (Ev.dD _ λi hi=> .inl hi),hb.du (B:=K) ((dQ.setCell (Qab K) _).setCell (Qab K) _) h3,h3⟩
def JV(w:aj)(o:Obj):(w.drew.alloc o).heap.size=w.heap.size+1:=by
 show(w.heap.push o).size=_;simp
def zed(h:Below (w.drew.alloc o).heap.size (w.drew.alloc o) w3):di w3 w o:=
 (h.block w.heap.size (by rw[JV];omega)).trans (Qbh w.drew o)
def xj(l:aH)(d:ax)(ver:Nat)(hc:cG l.first)(e:ax)(QG:cY l.first l.changes e)(hd:cY l.first (l.changes.take ver) d)(hv:ver<=l.changes.length)(h5:l.changes.length<=12)(M:aN)(w:aj)(hM:Bd M w)(fv cv:an)(cq:ab M w fv l.first.fields)(bJ:ab M w cv l.changes):
 xG 121 #[.agg #[xS l.first.name,fv,cv],xI ver] w λv w'=>∃jA,v= .tuple #[.agg #[xS l.first.name,jA],xB true]/\ab M w' jA d.fields:=by
 have qp:Hd (∀(c:ax)(x:aC)(N:aN)(W:aj)(fv:an),iR c x->cG c->iZ c x=true->Bd N W->ab N W fv c.fields->_):=λc x N W fv h1 h2 h3 h4 h5=>wZ c x h1.pre h2.right (cF h2.small) h3 N W h4 fv h5;have gM:Hd (∀k e x,cY l.first (l.changes.take k) e->l.changes[k]? =some x->cG e/\iR e x/\iZ e x=true/\cY l.first (l.changes.take (k+1)) (bZ e x)):=λk e x h1 h2=>⟨h1.ok hc,xb h1 QG h2⟩;have WI:Hd (∀e,cY l.first (l.changes.take ver) e->e=d):=λe h=>h.eq hd;have qk:Hd (∀k x,l.changes[k]? =some x->_):=λk x h=>oP bJ h;have iL:=af cq;obtain⟨fa,fc,rfl,Jq,M9,_⟩:=cq.open_;obtain⟨ca,cc,rfl,WJ,WK,_⟩:=bJ.open_;clear cq bJ QG hc hd;obtain⟨⟨nm,fs⟩,chs⟩:=l;dsimp only at*;go_enter func121,ntmps121;go_wp2;go_loopg [5,7,8,9]ver(λg r5 iv _ _ wr=>∃(k n cap:Nat)(a:fA),k<=ver/\g=ver-k/\iv=xI k/\r5=xB false/\Hd (Lo M w ⟨⟨nm,fs⟩,chs⟩ [cI nm (xL fa fs.length fc) (xL ca chs.length cc),cU ⟨#[]⟩ (xL none 0 0)] 2 k nm a n cap wr));case atStart=>exact⟨0,fs.length,fc,fa,Qbf _,rfl,rfl,rfl,(show Lo _ _ _ _ _ _ _ _ _ _ _ from⟨⟨nm,fs⟩,by simpa using cY.nil _,rfl,rfl,iL.o.ev (dF (Bx.gO w _ _ _).1),Bx.gO w _ _ _⟩)⟩
 case round=>
  obtain⟨k,n,cap,a,Nc,rfl,rfl,rfl,HS⟩:=hrel;obtain⟨e,WL,QQ,WM,bI,tt⟩:=HS.o;have bW:=af tt;obtain⟨l0,l1,l2⟩:=aD (bW.o.bG rfl);obtain⟨o0,o1⟩:=ah (bW.o.fR rfl);have sr:=bW.o.bF;simp only[Qcc,Qcd,Qda]at sr;by_cases bu:k<ver
  .obtain⟨x,hx⟩:=eB chs k (by omega);obtain⟨b,off,ig,vN,cR,ay⟩:=qk.o k x hx;obtain⟨rfl,rfl⟩:=iB vN;obtain⟨k0,k1,k2,k3⟩:=gM.o k e x WL hx;have vM:=af k3;have hkc:k<chs.length:=by omega
   obtain⟨q0,q1,q2,q3,q4,q5,q6,q7⟩:=ay wr bW.o.1;have br:Hd (∀(N:aN)(W:aj),Bd N W->ab N W (xL a n cap) e.fields->xC 181 #[.agg #[xS nm,xL a n cap], .agg #[xI x.kind,xS x.field,xS x.name,xS x.more,xI x.type.kind,xI x.type.of,xS x.expr,xS x.other]] W (cg W λv w'=>∃jA,v= .tuple #[.agg #[xS nm,jA],xI 0]/\ab N w' jA (bZ e x).fields)):=λN W h1 h2=>by
    have h:=qp.o e x N W (xL a n cap) k1 k0 k2 h1 h2;rw[QQ]at h;exact h
   have hBW:=dN (M:=M) (w:=w) (n:=3) (W:=wr) hM (by omega);have KL:=af (λo=>br.o (λi=>ew M w 3 i\/i=wr.heap.size) (wr.drew.alloc o) (λi hi=>by
    rw[JV];rcases hi with hi|hi
    .have:=hBW i hi;omega
    .omega) (bI.ev ⟨((ai.refl _ _).drew).alloc _,λi hi=>hi.imp_right λh=>Nat.le_of_eq h.symm⟩));have HCB:=af (br.o (ew M w 3) wr.drew hBW (bI.ev ((Ev.refl _ _).drew)));have UB:=af (λo=>ay (wr.alloc o) (bW.o.alloc o).1);have qa0:=λo=>(UB.o o).1;have qa1:=λo=>(UB.o o).2.1;have qa2:=λo=>(UB.o o).2.2.1;have qa3:=λo=>(UB.o o).2.2.2.1;have qa4:=λo=>(UB.o o).2.2.2.2.1;have qa5:=λo=>(UB.o o).2.2.2.2.2.1;have qa6:=λo=>(UB.o o).2.2.2.2.2.2.1;have qa7:=λo=>(UB.o o).2.2.2.2.2.2.2;have la2:=λo=>(aD ((bW.o.alloc o).bG rfl)).2.2;have oa0:=λo=>(ah ((bW.o.alloc o).fR rfl)).1;have oa1:=λo=>(ah ((bW.o.alloc o).fR rfl)).2;clear hx vN ay k0 k1 k2 k3 bI tt HS WL;go_upto_region 5 with fail;go_cut [8,9](λs8 s9 wx=>∃(K:Nat)(ya:fA)(yc:Nat),s8=xP K/\s9=xI 0/\Hd (Vh M w [cI nm (xL fa fs.length fc) (xL (some ⟨b,off,none⟩) chs.length cc),cU ⟨#[]⟩ (xL none 0 0),cU nm (xL a n cap)] nm (bZ e x) K ya yc wx));case first=>
    go_region_law(first
     |(go_simp;go_at_call 181;first|refine(KL.o _).mono ?_|refine HCB.o.mono ?_
       rintro en w3⟨_,rfl,⟨jA,rfl,bI⟩,bP⟩;obtain⟨ya,yc,rfl,_⟩:=bI.open_;have gp:=af bI;clear bI;have bO:Hd (Bx w [cI nm (xL fa fs.length fc) (xL (some ⟨b,off,none⟩) chs.length cc),cU ⟨#[]⟩ (xL none 0 0),cU nm (xL a n cap)] w3):=(by first|exact bW.o.drew.below bP|exact(bW.o.drew.alloc _).below bP);have s3:=bO.o.bF;simp only[Qcc,Qcd]at s3;try have HZ:=af (zed bP)
       try have z0:=(ah HZ.o).1
       try have z1:=(ah HZ.o).2
       try have y0:=ag HZ.o 0
       try have y1:=ag HZ.o 1));all_goals(go_wp2;go_meet)
    all_goals first
     |exact⟨wr.heap.size,ya,yc,rfl,rfl,(Vj bO.o gp.o HZ.o (by omega))⟩
     |exact⟨w3.heap.size,ya,yc,rfl,rfl,(Vi bO.o gp.o (by omega))⟩
   case rest=>
    obtain⟨K,ya,yc,rfl,rfl,HC⟩:=hcut;obtain⟨hC1,hC2,hC3,hC4⟩:=HC.o;obtain⟨d0,d1⟩:=ah hC1;obtain⟨p0,p1⟩:=ah (hC3.fR rfl);obtain⟨f0,f1⟩:=mV (hC3.fR rfl);have neK:w.heap.size+1+1≠K:=by omega
    clear hC1 hC2 hC3;go_wp2;go_roundg(ver-(k+1));case measure=>omega
    case rel=>
     refine⟨k+1,(bZ e x).fields.length,yc,ya,by omega,rfl,by go_num,rfl,?_⟩;refine(show Lo _ _ _ _ _ _ _ _ _ _ _ from⟨bZ e x,vM.o,QQ,rfl,?_,?_⟩)
     .exact HC.o.2.1.ev ((((Ev.refl _ _).setCell (.inl (.inr ⟨by show w.heap.size<=w.heap.size+1+1;omega,by show w.heap.size+1+1<w.heap.size+3;omega⟩)) _).setCell (.inl (.inr ⟨by show w.heap.size<=w.heap.size+1+1;omega,by show w.heap.size+1+1<w.heap.size+3;omega⟩)) _))
     .exact(HC.o.2.2.1.set 2 0 rfl _).set 2 1 rfl _
  .have Yp:k=ver:=by omega
   obtain rfl:e=d:=WI.o e (by rw[<-Yp];exact WL);have gp:=af bI;obtain⟨r0,r1⟩:=ah (bW.o.bU rfl);obtain⟨g0,g1⟩:=mV (bW.o.bU rfl);subst WM;clear bI tt HS WL;go_wp2_with fail;refine Qae (v:= .tuple #[.agg #[xS nm,xL a e.fields.length cap],xB true]) (by simp[results,results121,go_sem,r0,r1]) rfl ⟨_,rfl,⟨_,rfl,?_⟩,?_⟩
   .exact gp.o.ev ((((fj wr).setCell (.inl (.inr ⟨by show w.heap.size<=w.heap.size+1;omega,by show w.heap.size+1<w.heap.size+3;omega⟩)) _).setCell (.inl (.inr ⟨by show w.heap.size<=w.heap.size+1;omega,by show w.heap.size+1<w.heap.size+3;omega⟩)) _))
   .exact(bW.o.1.setCell (by show w.heap.size<=w.heap.size+1;omega) _).setCell (by show w.heap.size<=w.heap.size+1;omega) _
structure dZ(l:aH):Prop where
 first:cG l.first
 len:l.changes.length<=12
 chs:∃d,cY l.first l.changes d
def Vk(ls:List aH):Prop:=ls.length<=4
structure dK(ls:List aH):Prop where
 len:ls.length<=8
 lines:∀l∈ls,dZ l
 apart:∀(k:Nat)(l:aH),ls[k]? =some l->dU ls l.first.name=k
def Lr(l:aH)(hl:dZ l)(M:aN)(w:aj)(hM:Bd M w)(fv cv:an)(cq:ab M w fv l.first.fields)(bJ:ab M w cv l.changes):
 xC 245 #[.agg #[xS l.first.name,fv,cv]] w (cr (xB true) w):=by
 obtain⟨d,hd⟩:=hl.chs;have h5:=hl.len;have HR:=gG (w:=w) (λW hb=>ku M fv W l.first (cq.below hb) (cF hl.first.small) hl.first.right);have HC:=gG (w:=w) (λW hb=>xj l d l.changes.length hl.first d hd (by rw[List.take_length];exact hd) bN (by omega) M W (hM.below hb) fv cv (cq.below hb) (bJ.below hb));obtain⟨fa,fc,rfl,Jq,M9,_⟩:=cq.open_;obtain⟨ca,cc,rfl,WJ,WK,_⟩:=bJ.open_;obtain⟨⟨nm,fs⟩,chs⟩:=l;dsimp only at*;go_enter func245,ntmps245;go_wp2_with fail;refine bY (HR.o _ bM) λw1 aF=> ?_;have HB:=af ((Bx.eD w (cI nm (xL fa fs.length fc) (xL ca chs.length cc))).below aF);obtain⟨l0,l1,l2⟩:=aD (HB.o.bG rfl);go_wp2_with fail;refine(HC.o _ HB.o.1).mono ?_;rintro e w2⟨_,rfl,⟨jA,rfl,bI⟩,bC⟩;obtain⟨ya,yc,rfl,_⟩:=bI.open_;have aQ:=af (HB.o.below bC);go_wp2;go_ret;exact⟨bz (by first|rfl|simp),(aQ.o.alloc _).1⟩
def GS(ls:List aH)(h:dK ls)(M:aN)(w:aj)(hM:Bd M w)(v:an)(hs:ab M w v ls):
 xC 182 #[.agg #[v]] w (cr (.tuple #[xI 0,xI 0]) w):=by
 have h4:=h.len;have HL:Hd (∀k l,ls[k]? =some l->_):=λk l h=>eE hs h;have eF:Hd (∀(k:Nat)(l:aH)W(fv cv:an),ls[k]? =some l->aq w W->ab M w fv l.first.fields->ab M w cv l.changes->_):=λk l W fv cv hk hb h1 h2=>Lr l (h.lines l (Qaf hk)) M W (hM.below hb) fv cv (h1.below hb) (h2.below hb);have HF:Hd (∀(k:Nat)(l:aH)W,ls[k]? =some l->aq w W->xC 49 #[.agg #[v],xS l.first.name] W (cr (.tuple #[xI k,xB true]) W)):=λk l W hk hb=>xh M v W ls l.first.name (hs.below hb) (by omega) k true (show _=_ by rw[h.apart k l hk,if_neg (by omega)]) (show _=_ by rw[h.apart k l hk];simp);obtain⟨a,bQ,rfl,cV,hm,_⟩:=hs.open_;go_enter func182,ntmps182;go_wp2;go_loopg [2,3,4,5,6]ls.length(λg r2 r3 iv _ _ wr=>∃k:Nat,k<=ls.length/\g=ls.length-k/\iv=xI k/\r2=xI 0/\r3=xI 0/\Hd (Bx w [fS (xL a ls.length bQ)] wr));case atStart=>exact⟨0,Qbf _,rfl,rfl,rfl,rfl,(Bx.eD w _)⟩
 case round=>
  obtain⟨k,hk,rfl,rfl,rfl,rfl,HX⟩:=hrel;have tC:=one_cell (HX.o.bG rfl);by_cases bu:k<ls.length
  .obtain⟨l,hl⟩:=eB ls k bu;obtain⟨b,off,cap,fa,fc,ca,cc,hv,cR,tI,mZ,_,ay⟩:=HL.o k l hl;obtain⟨rfl,rfl⟩:=iB hv;obtain⟨q0,q1,q2⟩:=ay wr HX.o.1;have NQ:=af (eF.o k l wr _ _ hl HX.o.1 tI mZ);have jy:=af (λW hb=>HF.o k l W hl hb);have zN:=af ay;go_upto_region 8 with(go_at_call 245;refine NQ.o.mono ?_;rintro e w1⟨rfl,aF⟩);have fL:=af (HX.o.below aF);have mZ:=one_cell (fL.o.bG rfl);obtain⟨p0,p1,p2⟩:=zN.o w1 fL.o.1;have zP:=af (jy.o w1.drew fL.o.1.drew);go_region_law(first
    |(go_simp;go_at_call 49;refine zP.o.mono ?_;rintro e w2⟨rfl,bC⟩;have fU:Hd (Bx w [fS (xL (some ⟨b,off,none⟩) ls.length bQ)] w2):=fL.o.drew.below bC));all_goals
    go_wp2;go_roundg(ls.length-(k+1));case measure=>omega
    case rel=>exact⟨k+1,by omega,rfl,by go_num,rfl,rfl,fU⟩
  .go_wp2;go_ret2;exact⟨rfl,HX.o.1⟩
def OC(ls:List aH)(h:dK ls)(M:aN)(w:aj)(hM:Bd M w)(v:an)(hs:ab M w v ls)(n:Nat)(hn:n<ls.length):
 xC 119 #[.agg #[v],xI n] w (cr (xI 0) w):=by
 have h4:=h.len;have HC:=gG (w:=w) (λW hb=>GS ls h M W (hM.below hb) v (hs.below hb));obtain⟨a,bQ,rfl,cV,hm,_⟩:=hs.open_;go_enter func119,ntmps119;go_wp2_with fail;refine bY (HC.o _ bM) λw1 aF=> ?_;have HB:=af ((Bx.eD w (fS (xL a ls.length bQ))).below aF);have tC:=one_cell (HB.o.bG rfl);go_wp2;go_ret;exact⟨rfl,HB.o.1⟩
def Sn(ls:List aH)(h:dK ls)(M:aN)(w:aj)(hM:Bd M w)(v:an)(hs:ab M w v ls)(n:Nat)(l:aH)(hn:ls[n]? =some l)(ver:Nat)(hv:ver<=l.changes.length)(d:ax)(hd:cY l.first (l.changes.take ver) d):
 xG 51 #[.agg #[v],xI n,xI ver] w λv w'=>∃jA,v= .tuple #[.agg #[xS l.first.name,jA],xI 0]/\ab M w' jA d.fields:=by
 have h4:=h.len;have uI:=h.lines l (Qaf hn);have h5:=uI.len;have bu:=(Qad.1 hn).1;obtain⟨b,off,cap,fa,fc,ca,cc,rfl,cR,tI,mZ,_,ay⟩:=eE hs hn;have cV:ls.length<=cap/\cap<=9223372036854775807:=by obtain⟨_,_,e,h1,h2,_⟩:=hs.open_;cases e;exact⟨h1,h2⟩
 obtain⟨QU,QV⟩:=cV;have HT:=gG (w:=w) (λW hb=>OC ls h M W (hM.below hb) _ (hs.below hb) n bu);have HV:Hd (∀W,_):=λW=>GR l.first.name (xL fa l.first.fields.length fc) ca l.changes.length cc ver (by omega) (by omega) W;obtain⟨d',Z0⟩:=uI.chs;have HC:Hd (∀W,aq w W->w.heap.size+2<=W.heap.size->_):=λW hb hz=>xj l d ver uI.first d' Z0 hd hv (by omega) (ew M w 2) W (dN hM hz) _ _ (tI.ev (dF hb)) (mZ.ev (dF hb));have zN:=af ay;obtain⟨⟨nm,fs⟩,chs⟩:=l;dsimp only at*;go_enter func51,ntmps51;go_wp2_with fail;refine bY (HT.o _ (Bx.dq w _ _).1) λw1 aF=> ?_;have HB:=af ((Bx.dq w (fS (xL (some ⟨b,off,none⟩) ls.length cap)) (cU ⟨#[]⟩ (xL none 0 0))).below aF);have tC:=one_cell (HB.o.bG rfl);obtain⟨q0,q1,q2⟩:=zN.o w1 HB.o.1;go_wp2_with fail;refine bY (HV.o _) λw2 bC=> ?_;have aQ:=af (HB.o.below bC);have CO:=one_cell (aQ.o.bG rfl);obtain⟨p0,p1,p2⟩:=zN.o w2 aQ.o.1;go_wp2_with fail;refine(HC.o _ aQ.o.1 aQ.o.bF).mono ?_;rintro e w3⟨_,rfl,⟨jA,rfl,bI⟩,bP⟩;obtain⟨ya,yc,rfl,_⟩:=bI.open_;have gp:=af bI;have bO:=af (aQ.o.below bP);have g0:=λo=>(ah ((bO.o.alloc o).bU rfl)).1;have g1:=λo=>(ah ((bO.o.alloc o).bU rfl)).2;have f0:=λo=>ag ((bO.o.alloc o).bU rfl) 0;have f1:=λo=>ag ((bO.o.alloc o).bU rfl) 1;go_wp2_with fail;refine Qae (v:= .tuple #[.agg #[xS nm,xL ya d.fields.length yc],xI 0]) (by simp[results,results51,go_sem,g0,g1]) rfl ⟨_,rfl,⟨_,rfl,?_⟩,?_⟩
 .exact gp.o.ev ((((fj w3).alloc _).setCell (.inl (.inr ⟨by show w.heap.size<=w.heap.size+1;omega,by show w.heap.size+1<w.heap.size+2;omega⟩)) _).setCell (.inl (.inr ⟨by show w.heap.size<=w.heap.size+1;omega,by show w.heap.size+1<w.heap.size+2;omega⟩)) _)
 .exact((bO.o.alloc _).1.setCell (by show w.heap.size<=w.heap.size+1;omega) _).setCell (by show w.heap.size<=w.heap.size+1;omega) _
end Go.Proofs.YtepaofffbkfodaaGreatDoor
