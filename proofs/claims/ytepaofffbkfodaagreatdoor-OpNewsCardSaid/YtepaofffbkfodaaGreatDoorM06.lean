/- A part; no condition. -/
import Derived.Test.YtepaofffbkfodaaGreatDoorM05
set_option linter.all false
set_option maxHeartbeats 8000000
set_option maxRecDepth 100000
namespace Go.Proofs.YtepaofffbkfodaaGreatDoor
open Tryz
open Go.RowKit
variable{f:aH}{k g K yc:Nat}{w W w3:ax}{M:aV}{t:TypeId}{c0 c1 c2 cv v:aA}{c d:aI}{x:aN}{ls:List aQ}{ya:fx}{nm:aY}{o0 o1 o2 o:Obj}
def wR(x:aN)(f:aH):(cJ x f).length<=2:=by unfold cJ;repeat(first|split|simp)
theorem C7(x:aN):∀l:List aH,(l.flatMap (cJ x)).length<=2*l.length
 |[]=>by simp
 |f::r=>by rw[List.flatMap_cons,Qda];have:=wR x f;have:=C7 x r;have:(f::r).length=r.length+1:=rfl;omega
def KF(x:aN){l:List aH}(h:l[k]? =some f):(l.take k).flatMap (cJ x)++cJ x f=(l.take (k+1)).flatMap (cJ x):=by
 rw[Qbb,h,List.flatMap_append];simp
def cW(n:aY)(v:aA):Obj:=xK #[n,v] 47
def sV(x:aN):Obj:=xK #[x.an,x.field,x.ai,x.more,x.type.an,x.type.of,x.cX,x.bZ] 51
def Uz(w2:ax)(nm:aY)(fs:List aH)(a:fx)(n cap:Nat)(wr:ax):Prop:=
 fs.length=n/\aS (λi=>i<[w2]) [w2] 60 wr (xL a n cap) fs/\Bx w2 [cW nm (xL a n cap)] wr
def wS(c:aI)(x:aN)(hp:qA c x)(hc:aX c=true)(hcn:c.ai.size<=maxLen)(hb:jo c x=true)(M:aV)(w:ax)(hM:Bd M w)(fv:aA)(hfs:ab M w fv c.ah):
 xC 181 #[.agg #[xS c.ai,fv], .agg #[xI x.an,xS x.field,xS x.ai,xS x.more,xI x.type.an,xI x.type.of,xS x.cX,xS x.bZ]] w
  (cm w λv w'=>∃jK,v= .tuple #[.agg #[xS c.ai,jK],xI 0]/\ab M w' jK (cw c x).ah):=by
 obtain⟨i0,hi0,hz0,hz1,hz2⟩:=info_parts gu;have h8:=((bC c).1 hc).2.1;have hk:x.an=1\/x.an=2\/x.an=3\/x.an=4\/x.an=5\/x.an=6:=by have:=hp.sh;simp only[nu]at this;omega
 have HR:Hd (∀W fv,ab M W fv c.ah->_):=λW fv h=>kF M fv W c h hcn hc;have HC:Hd (∀W fv,Bd M W->ab M W fv c.ah->_):=λW fv h1 h2=>uF c x hp hc hcn true hb M W h1 fv h2;have HTU:Hd (∀(f:aH)(N:aV)(W:ax),f.ai.size<=maxLen->Bd N W->_):=λf N W h1 h2=>Gj x f hk h1 hp.s2 hp.s3 N W h2;have gn:Hd (x.ai.size<=maxLen):=hp.s2;have iD:=ag hfs;obtain⟨fa,fc,rfl,hlc,MD,hcells⟩:=hfs.aq;have zB:=ag hcells;clear hp hfs hcells hb;have MN:=ag (λ(k:Nat)(f:aH)(h:c.ah[k]? =some f)=>KF x h);have sZ:=ag (λ(k:Nat)=>C7 x (c.ah.take k));have Qa:=ag (wR x);have XB:Hd (∀(fs:List aH),(c.ah.take c.ah.length).flatMap (cJ x)=fs->(x.an=1->(cw c x).ah=fs++[⟨x.ai,x.type,false⟩])/\(x.an≠1->(cw c x).ah=fs)):=λfs h=>by
  rw[List.take_length]at h;unfold cw Jl;rw[h];exact⟨λh=>by simp[h],λh=>by simp[h]⟩
 have Sx:Hd (∀f,∃ts,cJ x f=ts):=λf=>⟨_,rfl⟩;have HCH:Hd (∀(o:Obj),sV x=o->o=xK #[xI x.an,xS x.field,xS x.ai,xS x.more,xI x.type.an,xI x.type.of,xS x.cX,xS x.bZ] 51):=λo h=>h.symm;go_enter func181,ntmps181;go_wp2_with fail;refine cC (HR.o _ _ (iD.o.ae (Bx.gj _ _ _ _).1)) λw1 hb1=> ?_;have nP:Hd (Bx w [cW c.ai (xL fa c.ah.length fc),sV x,cW () ()] w1):=(Bx.gj w _ _ _).ae hb1;clear hb1;obtain⟨c0,c1⟩:=ak (nP.o.bO rfl);obtain⟨a0,a1,a2,a3,a4,a5,a6,a7⟩:=aB (nP.o.cg rfl);go_wp2_with fail;refine cC (HC.o _ _ (hM.ae nP.o.1) (iD.o.ae nP.o.1)) λw2 bE=> ?_;have fZ:Hd (Bx w [cW c.ai (xL fa c.ah.length fc),sV x,cW () ()] w2):=nP.o.ae bE;clear bE c0 c1 a0 a1 a2 a3 a4 a5 a6 a7;obtain⟨c0,c1⟩:=ak (fZ.o.bO rfl);have s2:=fZ.o.2.1;simp only[Qcc,Qcd]at s2;go_wp2;go_loopg [7]c.ah.length(λg iv wr=>∃(k m cap:Nat)(a:fx),k<=c.ah.length/\g=c.ah.length-k/\iv=xI k/\Hd (Uz w2 c.ai ((c.ah.take k).flatMap (cJ x)) a m cap wr));case atStart=>exact⟨0,0,0,none,Qbf _,rfl,rfl,(show Uz _ _ _ _ _ _ _ from⟨rfl,aS.nil _ _ _ _,Bx.eI w2 _⟩)⟩
 case round=>
  obtain⟨k,m,cap,a,P8,rfl,rfl,HS⟩:=hrel;have HW:Hd (Bx w [cW c.ai (xL fa c.ah.length fc),sV x,cW () ()] wr):=fZ.o.ae HS.o.2.2.1;clear c0 c1;obtain⟨c0,c1⟩:=ak (HW.o.bO rfl);obtain⟨a0,a1,a2,a3,a4,a5,a6,a7⟩:=aB (HW.o.cg rfl);obtain⟨o0,o1⟩:=ak (HS.o.2.2.bO rfl);have sr:=HS.o.2.2.2.1;simp only[Qcc,Qcd]at sr;have hm2:m<=2*c.ah.length:=by
   have:=sZ.o k;rw[HS.o.1,Qdb]at this;omega
  by_cases bH:k<c.ah.length
  .obtain⟨b,off,rfl,hMb,hbl,hcell⟩:=zB.o (by omega);obtain⟨f,hf⟩:=eG c.ah k bH;obtain⟨cs,⟨rfl,hfn⟩,hcs⟩:=hcell k f hf;have CI:Hd (∀W,aC w W->bJ W b (off+k*4) (xS f.ai)/\bJ W b (off+k*4+1) (xI f.type.an)/\bJ W b (off+k*4+2) (xI f.type.of)/\bJ W b (off+k*4+3) (xB f.indexed)):=λW hb=>⟨(hb.cell (p:=⟨b,off+k*4,none⟩) hbl).trans (hcs 0 _ rfl),(hb.cell (p:=⟨b,off+k*4+1,none⟩) hbl).trans (hcs 1 _ rfl),(hb.cell (p:=⟨b,off+k*4+2,none⟩) hbl).trans (hcs 2 _ rfl),(hb.cell (p:=⟨b,off+k*4+3,none⟩) hbl).trans (hcs 3 _ rfl)⟩;obtain⟨q0,q1,q2,q3⟩:=CI.o wr HW.o.1;have ZK:=ag (MN.o k f hf);obtain⟨ts,hts⟩:=Sx.o f;have zG:=ag hts;have hT2:ts.length<=2:=by rw[<-hts];exact Qa.o f
   clear hcell hcs hf hts;have BDM:Hd (Bd (bu (xL a m cap) (λi=>i<w2.heap.size+1)) wr.drew):=λi h=>by rcases h with h|h;(have:i<w2.heap.size+1:=h);(show i<wr.heap.size);omega;exact(HS.o.2.1.cG i h).2
   have bI:=ag (HTU.o f _ _ hfn BDM.o);rw[zG.o]at bI;go_upto_region 9 with fail;go_region_law(first
    |(go_simp;go_at_call 244;refine bI.o.mono ?_;rintro en w3⟨_,rfl,hsl,hb3⟩;obtain⟨ya,yc,rfl,_⟩:=hsl.aq;have gO:=ag hsl;have bV:=ag hb3;have jL:Hd (Bx w2 [cW c.ai (xL a m cap)] w3):=HS.o.2.2.drew.ae hb3;have HA3:Hd (aS (λi=>i<w2.heap.size+1) [w2] 60 w3 (xL a m cap) ((c.ah.take k).flatMap (cJ x))):=(HS.o.2.1.ae ⟨rfl,rfl,rfl,bT,λ_ _=>rfl⟩:aS _ _ _ wr.drew _ _).ae hb3;have qi:Hd (Bx w [cW c.ai (xL (b,off) c.ah.length fc),sV x,cW () ()] w3):=fZ.o.ae jL.o.1;have b0:=(ak (qi.o.bO rfl)).1;have b1:=(ak (qi.o.bO rfl)).2;have p1:ou w3 w2 1 (xL a m cap):=(ak (jL.o.bO rfl)).2;have s3:=jL.o.2.1;simp only[Qcc,Qcd]at s3;clear hsl hb3)
    |(refine tu (α:=aH) rfl _ _ _ rfl (λi=>i<w2.heap.size+1) [w2] 60 i0 _ 40 underlying45 hi0 hz0 hz1 hz2 rfl (by decide) (.slice a m cap) _ rfl HA3.o _ ts rfl gO.o (by rw[HS.o.1];unfold maxLen;omega) (by rw[HS.o.1];omega) (by omega) ?_;rw[HS.o.1];intro a4 c4 w4 Fm VS eA;have Qn:=ag Fm;have oq:Hd (Bx w2 [cW c.ai (xL a m cap)] w4):=jL.o.dG eA (by simp);have l3:ou w4 w2 1 (xL a m cap):=(ak (oq.o.bO rfl)).2;have l4:w4.frozen? (w2,1)=false:=aj (oq.o.bO rfl) 1;clear Fm VS eA));all_goals
    go_wp2;go_roundg(c.ah.length-(k+1));case measure=>omega
    case rel=>
     refine⟨k+1,m+ts.length,c4,a4,by omega,rfl,by go_num,?_⟩;refine(show Uz _ _ _ _ _ _ _ from⟨?_,?_,?_⟩)
     .rw[<-ZK.o,Qda,HS.o.1,zG.o]
     .rw[<-ZK.o,zG.o];exact Qn.o.rC (p:=⟨w2,1,none⟩) (by simp) (by simp) _
     .exact oq.o.set 0 1 rfl _
  .have XC:k=c.ah.length:=by omega
   by_cases hk1:x.an=1
   .have hk2:(x.an==1)=true:=by simpa using hk1
    have IV:=ag (show(cw c x).ah=(c.ah.take k).flatMap (cJ x)++[⟨x.ai,x.type,false⟩]by rw[XC];exact((XB.o _ rfl).1 hk1));go_wp2_with(at_builtin;refine bo (α:=aH) rfl _ _ _ rfl (λi=>i<w2.heap.size+1) [w2] 60 i0 _ 40 underlying45 hi0 hz0 hz1 hz2 rfl (by decide) (.slice a m cap) _ rfl (HS.o.2.1.alloc _) (λ_=>True) _ _ (⟨x.ai,x.type,false⟩:aH) rfl (cF _ _ _ _ rfl trivial) ⟨rfl,gn.o⟩ (by rw[HS.o.1];unfold maxLen;omega) (by rw[HS.o.1];omega) (by simp;omega) ?_;rw[HS.o.1];intro a4 c4 w4 Fm VS eA;have Qn:=ag Fm;have oq:Hd (Bx w2 [cW c.ai (xL a m cap)] w4):=(HS.o.2.2.alloc _).dG eA (by simp);have my:Hd (Bx w [cW c.ai (xL fa c.ah.length fc),sV x,cW () ()] w4):=fZ.o.ae oq.o.1;have l3:ou w4 w2 1 (xL a m cap):=(ak (oq.o.bO rfl)).2;have l4:w4.frozen? (w2,1)=false:=aj (oq.o.bO rfl) 1;have l5:ou w4 w2 0 (xS c.ai):=(ak (oq.o.bO rfl)).1;have r0:=(ak (my.o.fB rfl)).1;have r1:=(ak (my.o.fB rfl)).2;obtain⟨g0,g1⟩:=mu (my.o.fB rfl);have ne2:w.heap.size+1+1≠w2.heap.size:=by omega
                                                                                                                                     clear Fm VS eA);refine Qae (v:= .tuple #[.agg #[xS c.ai,xL a4 (m+1) c4],xI 0]) (by simp[results,results181,go_sem,r0,r1]) rfl ⟨_,rfl,⟨_,rfl,?_⟩,?_⟩
    .rw[IV.o];exact(Qn.o.slice (λi h=>h)).ev ((((Ev.dL (M:=λi=>i<w2.heap.size+1) (N:=M) w4 (λi hi=>by have:=hM i hi;omega)).setCell (.inl (by show w2.heap.size<w2.heap.size+1;omega)) _).setCell (.inl (by show w.heap.size+1+1<w2.heap.size+1;omega)) _).setCell (.inl (by show w.heap.size+1+1<w2.heap.size+1;omega)) _)
    .exact((my.o.1.setCell (by show w.heap.size<=w2.heap.size;omega) _).setCell (by show w.heap.size<=w.heap.size+1+1;omega) _).setCell (by show w.heap.size<=w.heap.size+1+1;omega) _
   .have hk2:(x.an==1)=false:=by simpa using hk1
    have IV:=ag (show(cw c x).ah=(c.ah.take k).flatMap (cJ x)by rw[XC];exact((XB.o _ rfl).2 hk1));obtain⟨r0,r1⟩:=ak (HW.o.fB rfl);obtain⟨g0,g1⟩:=mu (HW.o.fB rfl);have ne2:w.heap.size+1+1≠w2.heap.size:=by omega
    go_wp2_with fail;refine Qae (v:= .tuple #[.agg #[xS c.ai,xL a m cap],xI 0]) (by simp[results,results181,go_sem,r0,r1]) rfl ⟨_,rfl,⟨_,rfl,?_⟩,?_⟩
    .rw[IV.o];exact(HS.o.2.1.slice (λi h=>h)).ev (((Ev.dL (M:=λi=>i<w2.heap.size+1) (N:=M) wr (λi hi=>by have:=hM i hi;omega)).setCell (.inl (by show w.heap.size+1+1<w2.heap.size+1;omega)) _).setCell (.inl (by show w.heap.size+1+1<w2.heap.size+1;omega)) _)
    .exact(HW.o.1.setCell (by show w.heap.size<=w.heap.size+1+1;omega) _).setCell (by show w.heap.size<=w.heap.size+1+1;omega) _
def dX(M:aV)(w:ax)(n:Nat):Nat->Prop:=λi=>M i\/(w<=i/\i<↑w+n)
def dj {n:Nat}(h:aC w W):Ev M w (dX M w n) W:=⟨ao.az h,λi hi=>hi.imp_right λh=>h.1⟩
def dt {n:Nat}(hM:Bd M w)(h:w.heap.size+n<=W):Bd (dX M w n) W:=λi hi=>by rcases hi with hi|hi;(have:=hM i hi;omega);omega
def eK {n:Nat}(W:ax):Ev (dX M w n) W M W:=Ev.dL W λi hi=> .inl hi
def cP(n:aY)(fv cv:aA):Obj:=xK #[n,fv,cv] 72
def aO(h:W.heap[g]? =some (xK #[c0,c1,c2] t)):W.cell? (g,0)=some c0/\W.cell? (g,1)=some c1/\W.cell? (g,2)=some c2:=by simp[World.cell?,h]
theorem dm.ai {l:List aN}(h:dm c l d):d.ai=c.ai:=by
 induction h with
 |nil c=>rfl
 |cons c d x l _ _ _ ih=>exact ih
def wT {e:aI}{l:List aN}(h:dm c (l.take k) e)(ha:dm c l d)(hx:l[k]? =some x):jc e x/\jo e x=true/\dm c (l.take (k+1)) (cw e x):=by
 have⟨e',h1,h2⟩:=ha.split k;obtain rfl:=h.eq h1;have hd:l.drop k=x::l.drop (k+1):=by
  have⟨hl,he⟩:=Qad.1 hx;rw[List.drop_eq_getElem_cons hl,he]
 rw[hd]at h2;cases h2 with
 |cons _ _ _ _ g b _=>exact⟨g,b,by rw[Qbb,hx];exact h.snoc g b⟩
def uH:(Tryz.prog.info? 51).map (λi=>(i.zero,i.size,i.bytes))=some (some (.agg #[xI 0,"","","",xI 0,xI 0,"",""]),8,104):=by kernel_rfl
def oP {l:List aN}(h:ab M w cv l)(hx:l[k]? =some x):∃b off cap,cv=xL (b,off) l.length cap/\b<w.heap.size/\∀W,aC w W->bJ W b (off+k*8) x.an/\bJ W b (off+k*8+1) x.field/\bJ W b (off+k*8+2) x.ai/\bJ W b (off+k*8+3) x.more/\bJ W b (off+k*8+4) x.type.an/\bJ W b (off+k*8+5) x.type.of/\bJ W b (off+k*8+6) x.cX/\bJ W b (off+k*8+7) x.bZ:=by
 obtain⟨a,cap,rfl,hl,_,hc⟩:=h.aq;have hk:=(Qad.1 hx).1;obtain⟨b,off,rfl,_,hb,hcell⟩:=hc (by omega);obtain⟨cs,⟨rfl,_⟩,hcs⟩:=hcell k x hx;refine⟨b,off,cap,rfl,hb,λW hB=> ?_⟩;have g:∀j u,([xI x.an,xS x.field,xS x.ai,xS x.more,xI x.type.an,xI x.type.of,xS x.cX,xS x.bZ]:List aA)[j]? =some u->bJ W b (off+k*8+j) u:=λj u hu=>(hB.cell (p:=⟨b,off+k*8+j,none⟩) hb).trans (hcs j u hu);exact⟨g 0 _ rfl,g 1 _ rfl,g 2 _ rfl,g 3 _ rfl,g 4 _ rfl,g 5 _ rfl,g 6 _ rfl,g 7 _ rfl⟩
def KG(M:aV)(w:ax)(l:aQ)(os:List Obj)(E:Nat)(k:Nat)(nm:aY)(a:fx)(n cap:Nat)(wr:ax):Prop:=
 ∃e:aI,dm l.au (l.aw.take k) e/\e.ai=nm/\e.ah.length=n/\ab (dX M w 3) wr (xL a n cap) e.ah/\Bx w (os++[cW nm (xL a n cap)]) wr
def KH(l:aQ)(d:aI)(hc:cN l.au)(Qg:dm l.au l.aw d)(h5:l.aw.length<=12)(M:aV)(w:ax)(hM:Bd M w)(fv cv:aA)(hfs:ab M w fv l.au.ah)(hcs:ab M w cv l.aw):
 xG 116 #[.agg #[xS l.au.ai,fv,cv]] w λv w'=>∃jK,v= .agg #[xS l.au.ai,jK]/\ab M w' jK d.ah:=by
 have pL:Hd (∀(c:aI)(x:aN)(W:ax)(fv:aA),jc c x->cN c->jo c x=true->Bd (dX M w 3) W->ab (dX M w 3) W fv c.ah->_):=λc x W fv h1 h2 h3 h4 h5=>wS c x h1.pre h2.right (cM h2.small) h3 (dX M w 3) W h4 fv h5;have ia:Hd (∀k e x,dm l.au (l.aw.take k) e->l.aw[k]? =some x->cN e/\jc e x/\jo e x=true/\dm l.au (l.aw.take (k+1)) (cw e x)):=λk e x h1 h2=>⟨h1.ok hc,wT h1 Qg h2⟩;have VT:Hd (∀e,dm l.au (l.aw.take l.aw.length) e->e=d):=λe h=>by rw[List.take_length]at h;exact h.eq Qg
 have om:Hd (∀k x,l.aw[k]? =some x->_):=λk x h=>oP hcs h;have iD:=ag hfs;obtain⟨fa,fc,rfl,hlc,MD,_⟩:=hfs.aq;obtain⟨ca,cc,rfl,VU,VV,_⟩:=hcs.aq;obtain⟨⟨nm,fs⟩,chs⟩:=l;dsimp only at*;go_enter func116,ntmps116;go_wp2;go_loopg [4]chs.length(λg iv wr=>∃(k n cap:Nat)(a:fx),k<=chs.length/\g=chs.length-k/\iv=xI k/\Hd (KG M w ⟨⟨nm,fs⟩,chs⟩ [cP nm (xL fa fs.length fc) (xL ca chs.length cc),cW () ()] 2 k nm a n cap wr));case atStart=>exact⟨0,fs.length,fc,fa,Qbf _,rfl,rfl,(show KG _ _ _ _ _ _ _ _ _ _ _ from⟨⟨nm,fs⟩,by simpa using dm.nil _,rfl,rfl,iD.o.ev (dj (Bx.gj w _ _ _).1),Bx.gj w _ _ _⟩)⟩
 case round=>
  obtain⟨k,n,cap,a,P8,rfl,rfl,HS⟩:=hrel;obtain⟨e,hce,hen,hel,hsl,hbx⟩:=HS.o;have cI:=ag hbx;obtain⟨l0,l1,l2⟩:=aO (cI.o.bO rfl);obtain⟨o0,o1⟩:=ak (cI.o.fB rfl);have sr:=cI.o.bQ;simp only[Qcc,Qcd,Qda]at sr;by_cases bH:k<chs.length
  .obtain⟨x,hx⟩:=eG chs k bH;obtain⟨b,off,cap',hcv,hbl,hcells⟩:=om.o k x hx;obtain⟨rfl,rfl⟩:=iY hcv;obtain⟨k0,k1,k2,k3⟩:=ia.o k e x hce hx;have um:=ag k3;obtain⟨q0,q1,q2,q3,q4,q5,q6,q7⟩:=hcells wr cI.o.1;have bI:=ag (pL.o e x wr.drew (xL a n cap) k1 k0 k2 (dt (W:=wr.drew) hM (by show _<=wr.heap.size;omega)) (hsl.ev ((Ev.refl _ _).drew)));rw[hen]at bI;go_upto_region 5 with fail;go_region_law(first
    |(go_simp;go_at_call 181;refine bI.o.mono ?_;rintro en w3⟨_,rfl,⟨jK,rfl,hsl⟩,hb3⟩;obtain⟨ya,yc,rfl,_⟩:=hsl.aq;have gO:=ag hsl;have bV:Hd (Bx w [cP nm (xL fa fs.length fc) (xL (b,off) chs.length cc),cW () (),cW nm (xL a n cap)] w3):=cI.o.drew.ae hb3;have p0:=(ak (bV.o.fB rfl)).1;have p1:=(ak (bV.o.fB rfl)).2;obtain⟨f0,f1⟩:=mu (bV.o.fB rfl);clear hsl hb3));all_goals
    go_wp2;go_roundg(chs.length-(k+1));case measure=>omega
    case rel=>
     refine⟨k+1,(cw e x).ah.length,yc,ya,by omega,rfl,by go_num,?_⟩;refine(show KG _ _ _ _ _ _ _ _ _ _ _ from⟨cw e x,um.o,hen,rfl,?_,?_⟩)
     .exact gO.o.ev ((((Ev.refl _ _).setCell (.inl (.inr ⟨by show w.heap.size<=w.heap.size+1+1;omega,by show w.heap.size+1+1<w.heap.size+3;omega⟩)) _).setCell (.inl (.inr ⟨by show w.heap.size<=w.heap.size+1+1;omega,by show w.heap.size+1+1<w.heap.size+3;omega⟩)) _))
     .exact(bV.o.set 2 0 rfl _).set 2 1 rfl _
  .have XC:k=chs.length:=by omega
   obtain rfl:e=d:=VT.o e (by rw[<-XC];exact hce);have gO:=ag hsl;obtain⟨r0,r1⟩:=ak (cI.o.cg rfl);obtain⟨g0,g1⟩:=mu (cI.o.cg rfl);subst hel;go_wp2_with fail;refine Qae (v:= .agg #[xS nm,xL a e.ah.length cap]) (by simp[results,results116,go_sem,r0,r1]) rfl ⟨_,rfl,⟨_,rfl,?_⟩,?_⟩
   .exact gO.o.ev ((((eK wr).setCell (.inl (.inr ⟨by show w.heap.size<=w.heap.size+1;omega,by show w.heap.size+1<w.heap.size+3;omega⟩)) _).setCell (.inl (.inr ⟨by show w.heap.size<=w.heap.size+1;omega,by show w.heap.size+1<w.heap.size+3;omega⟩)) _))
   .exact(cI.o.1.setCell (by show w.heap.size<=w.heap.size+1;omega) _).setCell (by show w.heap.size<=w.heap.size+1;omega) _
def dx(ls:List aQ)(s:aY):Int:=idxOf (λl:aQ=>cq l.au.ai s) ls
def eL(h:ab M w v ls){l:aQ}(hx:ls[k]? =some l):∃b off cap fa fc ca cc,v=xL (b,off) ls.length cap/\b<w.heap.size/\ab M w (xL fa l.au.ah.length fc) l.au.ah/\ab M w (xL ca l.aw.length cc) l.aw/\l.au.ai.size<=maxLen/\∀W,aC w W->bJ W b (off+k*3) l.au.ai/\bJ W b (off+k*3+1) (xL fa l.au.ah.length fc)/\bJ W b (off+k*3+2) (xL ca l.aw.length cc):=by
 obtain⟨a,cap,rfl,hl,_,hc⟩:=h.aq;have hk:=(Qad.1 hx).1;obtain⟨b,off,rfl,_,hb,hcell⟩:=hc (by omega);obtain⟨cs,⟨fv,cv,rfl,hf,hcv,hn⟩,hcs⟩:=hcell k l hx;have hf2:=hf;have A7:=hcv;obtain⟨fa,fc,rfl,_⟩:=hf2.aq;obtain⟨ca,cc,rfl,_⟩:=A7.aq;refine⟨b,off,cap,fa,fc,ca,cc,rfl,hb,hf,hcv,hn,λW hB=> ?_⟩;have g:∀j u,([xS l.au.ai,xL fa l.au.ah.length fc,xL ca l.aw.length cc]:List aA)[j]? =some u->bJ W b (off+k*3+j) u:=λj u hu=>(hB.cell (p:=⟨b,off+k*3+j,none⟩) hb).trans (hcs j u hu);exact⟨g 0 _ rfl,g 1 _ rfl,g 2 _ rfl⟩
def eW(v:aA):Obj:=xK #[v] 31
def one_cell(h:W.heap[g]? =some (xK #[c0] t)):W.cell? (g,0)=some c0:=by simp[World.cell?,h]
def wW(M:aV)(v:aA)(w:ax)(ls:List aQ)(ai:aY)(hs:ab M w v ls)(h8:ls.length<=8)(at_:Int)(is:Bool)(HA:Hd ((if dx ls ai<0 then 0 else dx ls ai)=at_))(HI:Hd ((!decide (dx ls ai<0))=is)):
 xC 49 #[.agg #[v],ai] w (cu (.tuple #[at_,is]) w):=by
 have HL:Hd (∀k l,ls[k]? =some l->_):=λk l h=>eL hs h;obtain⟨a,cj,rfl,cY,hm,_⟩:=hs.aq;clear hs;go_enter func49,ntmps49;go_wp2;go_loopg [4,5,6]ls.length(λg r0 r1 iv wr=>∃k:Nat,k<=ls.length/\g=ls.length-k/\iv=xI k/\r0=xI 0/\r1=xB false/\wr=w.alloc (eW (xL a ls.length cj))/\Hd (∀y∈ls.take k,cq y.au.ai ai=false));case atStart=>exact⟨0,Qbf _,rfl,rfl,rfl,rfl,rfl,(show∀y∈_,_ fromλy hy=>by simp at hy)⟩
 case round=>
  obtain⟨k,hk,rfl,rfl,rfl,rfl,rfl,HK⟩:=hrel;have hc0:(w.alloc (eW (xL a ls.length cj))).cell? (w,0)=some (xL a ls.length cj):=one_cell (Qbh w _);by_cases bH:k<ls.length
  .have⟨l,hl⟩:=eG ls k bH;have⟨b,off,cap,fa,fc,ca,cc,hv,hbl,_,_,_,hcells⟩:=HL.o k l hl;obtain⟨rfl,rfl⟩:=iY hv;have⟨q0,_,_⟩:=hcells (w.alloc (eW (xL (b,off) ls.length cj))) bU;clear hcells hv;have CJ:=ag hl;clear hl;by_cases hq:(l.au.ai.toList==ai.toList)=true
   .have e0:dx ls ai=k:=idxOf_hit (p:=λl:aQ=>cq l.au.ai ai) HK.o CJ.o hq;have XH:=ag e0;clear e0;go_wp2;go_ret2;exact⟨Bh (by rw[<-HA.o,XH.o,if_neg (by omega)]) (by rw[<-HI.o,XH.o];simp),bU⟩
   .go_wp2;go_roundg(ls.length-(k+1));case measure=>omega
    case rel=>
     refine⟨k+1,by omega,rfl,by go_num,rfl,rfl,rfl,(show∀y∈_,_ fromλy hy=> ?_)⟩;rw[Qbb,CJ.o]at hy;rcases Qch.1 hy with hy|hy
     .exact HK.o y hy
     .simp at hy;subst hy;simpa [cq]using hq
  .go_wp2;go_ret2;have e0:dx ls ai= -1:=kW (p:=λl:aQ=>cq l.au.ai ai) (by have:=HK.o;rw[show k=ls.length from by omega,List.take_length]at this;exact this);exact⟨Bh (by rw[<-HA.o,e0];rfl) (by rw[<-HI.o,e0];rfl),bU⟩
def Gm(nm:aY)(fv:aA)(ca:fx)(n cc:Nat)(cQ:Int)(h0:0<=cQ)(h1:cQ<=n)(w:ax):
 xC 120 #[.agg #[nm,fv,xL ca n cc],cQ] w (cu true w):=by
 go_enter func120,ntmps120;go_wp2;go_ret;exact⟨bK (by first|(simp;done)|(simp;omega)),bU⟩
def UC(M:aV)(w:ax)(os:List Obj)(nm:aY)(d:aI)(K:Nat)(ya:fx)(yc:Nat)(wx:ax):Prop:=
 wx.heap[K]? =some (cW nm (xL ya d.ah.length yc))/\ab (dX M w 3) wx (xL ya d.ah.length yc) d.ah/\Bx w os wx/\↑w+3<=K
def rN(h:bW w3 K (xK #[c0,c1] t))(a b:aA):((w3.setCell (K,0) a).setCell (K,1) b).heap[K]? =some (xK #[a,b] t):=by
 have h1:=Qca w3 K 0 _ _ a h;have h2:=Qca _ K 1 _ _ b h1;simpa using h2
def UD(hb:Bx w [o0,o1,o2] w3)(hs:ab (dX M w 3) w3 (xL ya d.ah.length yc) d.ah)(h3:w.heap.size+3<=w3):
 UC M w [o0,o1,o2] nm d w3 ya yc (w3.alloc (xK #[nm,xL ya d.ah.length yc] 47)):=
 ⟨Qbh w3 _,hs.ev ((Ev.refl _ _).alloc _),hb.alloc _,h3⟩
def UE(hb:Bx w [o0,o1,o2] w3)(hs:ab (λi=>dX M w 3 i\/i=K) w3 (xL ya d.ah.length yc) d.ah)(hz:bW w3 K (cW () ()))(h3:↑w+3<=K):
 UC M w [o0,o1,o2] nm d K ya yc ((w3.setCell (K,0) nm).setCell (K,1) (xL ya d.ah.length yc)):=
 ⟨rN hz _ _,(hs.ev (((Ev.refl _ _).setCell (.inl (.inr rfl)) _).setCell (.inl (.inr rfl)) _)).ev (Ev.dL _ λi hi=> .inl hi),hb.dG (B:=K) ((dS.setCell (Qab K) _).setCell (Qab K) _) h3,h3⟩
def Jq(w:ax)(o:Obj):(w.drew.alloc o).heap.size=[w]:=by
 show(w.heap.push o).size=_;simp
def zed(h:Below (w.drew.alloc o).heap.size (w.drew.alloc o) w3):dk w3 w o:=
 (h.block w (by rw[Jq];omega)).trans (Qbh w.drew o)
def wX(l:aQ)(d:aI)(cQ:Nat)(hc:cN l.au)(e:aI)(Qg:dm l.au l.aw e)(hd:dm l.au (l.aw.take cQ) d)(hv:cQ<=l.aw.length)(h5:l.aw.length<=12)(M:aV)(w:ax)(hM:Bd M w)(fv cv:aA)(hfs:ab M w fv l.au.ah)(hcs:ab M w cv l.aw):
 xG 121 #[.agg #[l.au.ai,fv,cv],cQ] w λv w'=>∃jK,v= .tuple #[.agg #[l.au.ai,jK],true]/\ab M w' jK d.ah:=by
 have pL:Hd (∀(c:aI)(x:aN)(N:aV)(W:ax)(fv:aA),jc c x->cN c->jo c x=true->Bd N W->ab N W fv c.ah->_):=λc x N W fv h1 h2 h3 h4 h5=>wS c x h1.pre h2.right (cM h2.small) h3 N W h4 fv h5;have ia:Hd (∀k e x,dm l.au (l.aw.take k) e->l.aw[k]? =some x->cN e/\jc e x/\jo e x=true/\dm l.au (l.aw.take (k+1)) (cw e x)):=λk e x h1 h2=>⟨h1.ok hc,wT h1 Qg h2⟩;have VT:Hd (∀e,dm l.au (l.aw.take cQ) e->e=d):=λe h=>h.eq hd;have om:Hd (∀k x,l.aw[k]? =some x->_):=λk x h=>oP hcs h;have iD:=ag hfs;obtain⟨fa,fc,rfl,hlc,MD,_⟩:=hfs.aq;obtain⟨ca,cc,rfl,VU,VV,_⟩:=hcs.aq;clear hfs hcs Qg hc hd;obtain⟨⟨nm,fs⟩,chs⟩:=l;dsimp only at*;go_enter func121,ntmps121;go_wp2;go_loopg [5,7,8,9]cQ(λg r5 iv _ _ wr=>∃(k n cap:Nat)(a:fx),k<=cQ/\g=cQ-k/\iv=xI k/\r5=xB false/\Hd (KG M w ⟨⟨nm,fs⟩,chs⟩ [cP nm (xL fa fs.length fc) (xL ca chs.length cc),cW () ()] 2 k nm a n cap wr));case atStart=>exact⟨0,fs.length,fc,fa,Qbf _,rfl,rfl,rfl,(show KG _ _ _ _ _ _ _ _ _ _ _ from⟨⟨nm,fs⟩,by simpa using dm.nil _,rfl,rfl,iD.o.ev (dj (Bx.gj w _ _ _).1),Bx.gj w _ _ _⟩)⟩
 case round=>
  obtain⟨k,n,cap,a,P8,rfl,rfl,rfl,HS⟩:=hrel;have⟨e,hce,hen,hel,hsl,hbx⟩:=HS.o;have cI:=ag hbx;have⟨l0,l1,l2⟩:=aO (cI.o.bO rfl);have⟨o0,o1⟩:=ak (cI.o.fB rfl);have sr:=cI.o.bQ;simp only[Qcc,Qcd,Qda]at sr;by_cases bH:k<cQ
  .have⟨x,hx⟩:=eG chs k (by omega);have⟨b,off,cap',hcv,hbl,hcells⟩:=om.o k x hx;obtain⟨rfl,rfl⟩:=iY hcv;have⟨k0,k1,k2,k3⟩:=ia.o k e x hce hx;have um:=ag k3;have hkc:k<chs.length:=by omega
   have⟨q0,q1,q2,q3,q4,q5,q6,q7⟩:=hcells wr cI.o.1;have bI:Hd (∀(N:aV)(W:ax),Bd N W->ab N W (xL a n cap) e.ah->xC 181 #[.agg #[nm,xL a n cap], .agg #[x.an,x.field,x.ai,x.more,x.type.an,x.type.of,x.cX,x.bZ]] W (cm W λv w'=>∃jK,v= .tuple #[.agg #[nm,jK],xI 0]/\ab N w' jK (cw e x).ah)):=λN W h1 h2=>by
    have h:=pL.o e x N W (xL a n cap) k1 k0 k2 h1 h2;rw[hen]at h;exact h
   have hBW:=dt (M:=M) (w:=w) (n:=3) (W:=wr) hM (by omega);have J7:=ag (λo=>bI.o (λi=>dX M w 3 i\/i=wr) (wr.drew.alloc o) (λi hi=>by
    rw[Jq];rcases hi with hi|hi
    .have:=hBW i hi;omega
    .omega) (hsl.ev ⟨((ao.refl _ _).drew).alloc _,λi hi=>hi.imp_right λh=>Nat.le_of_eq h.symm⟩));have HCB:=ag (bI.o (dX M w 3) wr.drew hBW (hsl.ev ((Ev.refl _ _).drew)));have TS:=ag (λo=>hcells (wr.alloc o) (cI.o.alloc o).1);have qa0:=λo=>(TS.o o).1;have qa1:=λo=>(TS.o o).2.1;have qa2:=λo=>(TS.o o).2.2.1;have qa3:=λo=>(TS.o o).2.2.2.1;have qa4:=λo=>(TS.o o).2.2.2.2.1;have qa5:=λo=>(TS.o o).2.2.2.2.2.1;have qa6:=λo=>(TS.o o).2.2.2.2.2.2.1;have qa7:=λo=>(TS.o o).2.2.2.2.2.2.2;have la2:=λo=>(aO ((cI.o.alloc o).bO rfl)).2.2;have oa0:=λo=>(ak ((cI.o.alloc o).fB rfl)).1;have oa1:=λo=>(ak ((cI.o.alloc o).fB rfl)).2;clear hx hcv hcells k0 k1 k2 k3 hsl hbx HS hce;go_upto_region 5 with fail;go_cut [8,9](λs8 s9 wx=>∃(K:Nat)(ya:fx)(yc:Nat),s8=xP K/\s9=xI 0/\Hd (UC M w [cP nm (xL fa fs.length fc) (xL (b,off) chs.length cc),cW () (),cW nm (xL a n cap)] nm (cw e x) K ya yc wx));case first=>
    go_region_law(first
     |(go_simp;go_at_call 181;first|refine(J7.o _).mono ?_|refine HCB.o.mono ?_
       rintro en w3⟨_,rfl,⟨jK,rfl,hsl⟩,hb3⟩;obtain⟨ya,yc,rfl,_⟩:=hsl.aq;have gO:=ag hsl;clear hsl;have bV:Hd (Bx w [cP nm (xL fa fs.length fc) (xL (b,off) chs.length cc),cW () (),cW nm (xL a n cap)] w3):=(by first|exact cI.o.drew.ae hb3|exact(cI.o.drew.alloc _).ae hb3);have s3:=bV.o.bQ;simp only[Qcc,Qcd]at s3;try have HZ:=ag (zed hb3)
       try have z0:=(ak HZ.o).1
       try have z1:=(ak HZ.o).2
       try have y0:=aj HZ.o 0
       try have y1:=aj HZ.o 1));all_goals(go_wp2;go_meet)
    all_goals first
     |exact⟨wr,ya,yc,rfl,rfl,(UE bV.o gO.o HZ.o (by omega))⟩
     |exact⟨w3,ya,yc,rfl,rfl,(UD bV.o gO.o (by omega))⟩
   case rest=>
    obtain⟨K,ya,yc,rfl,rfl,HC⟩:=hcut;have⟨hC1,hC2,hC3,hC4⟩:=HC.o;have⟨d0,d1⟩:=ak hC1;have⟨p0,p1⟩:=ak (hC3.fB rfl);have⟨f0,f1⟩:=mu (hC3.fB rfl);have neK:w.heap.size+1+1≠K:=by omega
    clear hC1 hC2 hC3;go_wp2;go_roundg(cQ-(k+1));case measure=>omega
    case rel=>
     refine⟨k+1,(cw e x).ah.length,yc,ya,by omega,rfl,by go_num,rfl,?_⟩;refine(show KG _ _ _ _ _ _ _ _ _ _ _ from⟨cw e x,um.o,hen,rfl,?_,?_⟩)
     .exact HC.o.2.1.ev ((((Ev.refl _ _).setCell (.inl (.inr ⟨by show w.heap.size<=[w,w];omega,by show w.heap.size+1+1<↑w+3;omega⟩)) _).setCell (.inl (.inr ⟨by show w.heap.size<=[w,w];omega,by show w.heap.size+1+1<↑w+3;omega⟩)) _))
     .exact(HC.o.2.2.1.set 2 0 rfl _).set 2 1 rfl _
  .have XC:k=cQ:=by omega
   obtain rfl:e=d:=VT.o e (by rw[<-XC];exact hce);have gO:=ag hsl;have⟨r0,r1⟩:=ak (cI.o.cg rfl);have⟨g0,g1⟩:=mu (cI.o.cg rfl);subst hel;clear hsl hbx HS hce;go_wp2_with fail;refine Qae (v:= .tuple #[.agg #[nm,xL a e.ah.length cap],true]) (by simp[results,results121,go_sem,r0,r1]) rfl ⟨_,rfl,⟨_,rfl,?_⟩,?_⟩
   .exact gO.o.ev ((((eK wr).setCell (.inl (.inr ⟨by show w.heap.size<=[w];omega,by show w.heap.size+1<↑w+3;omega⟩)) _).setCell (.inl (.inr ⟨by show w.heap.size<=[w];omega,by show w.heap.size+1<↑w+3;omega⟩)) _))
   .exact(cI.o.1.setCell (by show w.heap.size<=[w];omega) _).setCell (by show w.heap.size<=[w];omega) _
structure ee(l:aQ):Prop where
 au:cN l.au
 len:l.aw.length<=12
 chs:∃d,dm l.au l.aw d
abbrev dH:aY:=⟨#[114,105,110,103,95,57]⟩
def Ys(ls:List aQ):Prop:=ls.length<=4/\∀l∈ls,l.au.ai≠dH
structure dF(ls:List aQ):Prop where
 len:ls.length<=8
 aK:∀l∈ls,ee l
 apart:∀(k:Nat)(l:aQ),ls[k]? =some l->dx ls l.au.ai=k
def KJ(l:aQ)(hl:ee l)(M:aV)(w:ax)(hM:Bd M w)(fv cv:aA)(hfs:ab M w fv l.au.ah)(hcs:ab M w cv l.aw):
 xC 245 #[.agg #[l.au.ai,fv,cv]] w (cu true w):=by
 have⟨d,hd⟩:=hl.chs;have h5:=hl.len;have HR:=gQ (w:=w) (λW hb=>kF M fv W l.au (hfs.ae hb) (cM hl.au.small) hl.au.right);have HC:=gQ (w:=w) (λW hb=>wX l d l.aw.length hl.au d hd (by rw[List.take_length];exact hd) bT (by omega) M W (hM.ae hb) fv cv (hfs.ae hb) (hcs.ae hb));obtain⟨fa,fc,rfl,hlc,MD,_⟩:=hfs.aq;obtain⟨ca,cc,rfl,VU,VV,_⟩:=hcs.aq;obtain⟨⟨nm,fs⟩,chs⟩:=l;dsimp only at*;go_enter func245,ntmps245;go_wp2_with fail;refine cC (HR.o _ bU) λw1 hb1=> ?_;have HB:=ag ((Bx.eI w (cP nm (xL fa fs.length fc) (xL ca chs.length cc))).ae hb1);have⟨l0,l1,l2⟩:=aO (HB.o.bO rfl);go_wp2_with fail;refine(HC.o _ HB.o.1).mono ?_;rintro e w2⟨_,rfl,⟨jK,rfl,hsl⟩,bE⟩;obtain⟨ya,yc,rfl,_⟩:=hsl.aq;have bg:=ag (HB.o.ae bE);go_wp2;go_ret;exact⟨bK (by first|rfl|simp),(bg.o.alloc _).1⟩
def Gn(ls:List aQ)(h:dF ls)(M:aV)(w:ax)(hM:Bd M w)(v:aA)(hs:ab M w v ls):
 xC 182 #[.agg #[v]] w (cu (.tuple #[xI 0,xI 0]) w):=by
 have h4:=h.len;have HL:Hd (∀k l,ls[k]? =some l->_):=λk l h=>eL hs h;have eJ:Hd (∀(k:Nat)(l:aQ)W(fv cv:aA),ls[k]? =some l->aC w W->ab M w fv l.au.ah->ab M w cv l.aw->_):=λk l W fv cv hk hb h1 h2=>KJ l (h.aK l (Qaf hk)) M W (hM.ae hb) fv cv (h1.ae hb) (h2.ae hb);have HF:Hd (∀(k:Nat)(l:aQ)W,ls[k]? =some l->aC w W->xC 49 #[.agg #[v],xS l.au.ai] W (cu (.tuple #[xI k,true]) W)):=λk l W hk hb=>wW M v W ls l.au.ai (hs.ae hb) (by omega) k true (show _=_ by rw[h.apart k l hk,if_neg (by omega)]) (show _=_ by rw[h.apart k l hk];simp);obtain⟨a,cj,rfl,cY,hm,_⟩:=hs.aq;go_enter func182,ntmps182;go_wp2;go_loopg [2,3,4,5,6]ls.length(λg r2 r3 iv _ _ wr=>∃k:Nat,k<=ls.length/\g=ls.length-k/\iv=xI k/\r2=xI 0/\r3=xI 0/\Hd (Bx w [eW (xL a ls.length cj)] wr));case atStart=>exact⟨0,Qbf _,rfl,rfl,rfl,rfl,(Bx.eI w _)⟩
 case round=>
  obtain⟨k,hk,rfl,rfl,rfl,rfl,HX⟩:=hrel;have hc0:=one_cell (HX.o.bO rfl);by_cases bH:k<ls.length
  .have⟨l,hl⟩:=eG ls k bH;have⟨b,off,cap,fa,fc,ca,cc,hv,hbl,hf1,hc1,_,hcells⟩:=HL.o k l hl;obtain⟨rfl,rfl⟩:=iY hv;have⟨q0,q1,q2⟩:=hcells wr HX.o.1;have Nf:=ag (eJ.o k l wr _ _ hl HX.o.1 hf1 hc1);have jq:=ag (λW hb=>HF.o k l W hl hb);have zB:=ag hcells;go_upto_region 8 with(go_at_call 245;refine Nf.o.mono ?_;rintro e w1⟨rfl,hb1⟩);have fp:=ag (HX.o.ae hb1);have hc1:=one_cell (fp.o.bO rfl);have⟨p0,p1,p2⟩:=zB.o w1 fp.o.1;have yL:=ag (jq.o w1.drew fp.o.1.drew);go_region_law(first
    |(go_simp;go_at_call 49;refine yL.o.mono ?_;rintro e w2⟨rfl,bE⟩;have eZ:Hd (Bx w [eW (xL (b,off) ls.length cj)] w2):=fp.o.drew.ae bE));all_goals
    go_wp2;go_roundg(ls.length-(k+1));case measure=>omega
    case rel=>exact⟨k+1,by omega,rfl,by go_num,rfl,rfl,eZ⟩
  .go_wp2;go_ret2;exact⟨rfl,HX.o.1⟩
def NV(ls:List aQ)(h:dF ls)(M:aV)(w:ax)(hM:Bd M w)(v:aA)(hs:ab M w v ls)(n:Nat)(hn:n<ls.length):
 xC 119 #[.agg #[v],n] w (cu (xI 0) w):=by
 have h4:=h.len;have HC:=gQ (w:=w) (λW hb=>Gn ls h M W (hM.ae hb) v (hs.ae hb));obtain⟨a,cj,rfl,cY,hm,_⟩:=hs.aq;go_enter func119,ntmps119;go_wp2_with fail;refine cC (HC.o _ bU) λw1 hb1=> ?_;have HB:=ag ((Bx.eI w (eW (xL a ls.length cj))).ae hb1);have hc0:=one_cell (HB.o.bO rfl);go_wp2;go_ret;exact⟨rfl,HB.o.1⟩
def Rz(ls:List aQ)(h:dF ls)(M:aV)(w:ax)(hM:Bd M w)(v:aA)(hs:ab M w v ls)(n:Nat)(l:aQ)(hn:ls[n]? =some l)(cQ:Nat)(hv:cQ<=l.aw.length)(d:aI)(hd:dm l.au (l.aw.take cQ) d):
 xG 51 #[.agg #[v],n,cQ] w λv w'=>∃jK,v= .tuple #[.agg #[l.au.ai,jK],xI 0]/\ab M w' jK d.ah:=by
 have h4:=h.len;have sT:=h.aK l (Qaf hn);have h5:=sT.len;have bH:=(Qad.1 hn).1;obtain⟨b,off,cap,fa,fc,ca,cc,rfl,hbl,hf1,hc1,_,hcells⟩:=eL hs hn;have cY:ls.length<=cap/\cap<=9223372036854775807:=by have⟨_,_,e,h1,h2,_⟩:=hs.aq;cases e;exact⟨h1,h2⟩
 obtain⟨Qo,Qp⟩:=cY;have HT:=gQ (w:=w) (λW hb=>NV ls h M W (hM.ae hb) _ (hs.ae hb) n bH);have HV:Hd (∀W,_):=λW=>Gm l.au.ai (xL fa l.au.ah.length fc) ca l.aw.length cc cQ (by omega) (by omega) W;have⟨d',hd'⟩:=sT.chs;have HC:Hd (∀W,aC w W->w.heap.size+2<=W->_):=λW hb hz=>wX l d cQ sT.au d' hd' hd hv (by omega) (dX M w 2) W (dt hM hz) _ _ (hf1.ev (dj hb)) (hc1.ev (dj hb));have zB:=ag hcells;obtain⟨⟨nm,fs⟩,chs⟩:=l;dsimp only at*;go_enter func51,ntmps51;go_wp2_with fail;refine cC (HT.o _ (Bx.du w _ _).1) λw1 hb1=> ?_;have HB:=ag ((Bx.du w (eW (xL (b,off) ls.length cap)) (cW () ())).ae hb1);have hc0:=one_cell (HB.o.bO rfl);have⟨q0,q1,q2⟩:=zB.o w1 HB.o.1;go_wp2_with fail;refine cC (HV.o _) λw2 bE=> ?_;have bg:=ag (HB.o.ae bE);have A7:=one_cell (bg.o.bO rfl);have⟨p0,p1,p2⟩:=zB.o w2 bg.o.1;go_wp2_with fail;refine(HC.o _ bg.o.1 bg.o.bQ).mono ?_;rintro e w3⟨_,rfl,⟨jK,rfl,hsl⟩,hb3⟩;obtain⟨ya,yc,rfl,_⟩:=hsl.aq;have gO:=ag hsl;have bV:=ag (bg.o.ae hb3);have g0:=λo=>(ak ((bV.o.alloc o).cg rfl)).1;have g1:=λo=>(ak ((bV.o.alloc o).cg rfl)).2;have f0:=λo=>aj ((bV.o.alloc o).cg rfl) 0;have f1:=λo=>aj ((bV.o.alloc o).cg rfl) 1;go_wp2_with fail;refine Qae (v:= .tuple #[.agg #[nm,xL ya d.ah.length yc],xI 0]) (by simp[results,results51,go_sem,g0,g1]) rfl ⟨_,rfl,⟨_,rfl,?_⟩,?_⟩
 .exact gO.o.ev ((((eK w3).alloc _).setCell (.inl (.inr ⟨by show w.heap.size<=[w];omega,by show w.heap.size+1<↑w+2;omega⟩)) _).setCell (.inl (.inr ⟨by show w.heap.size<=[w];omega,by show w.heap.size+1<↑w+2;omega⟩)) _)
 .exact((bV.o.alloc _).1.setCell (by show w.heap.size<=[w];omega) _).setCell (by show w.heap.size<=[w];omega) _
end Go.Proofs.YtepaofffbkfodaaGreatDoor
