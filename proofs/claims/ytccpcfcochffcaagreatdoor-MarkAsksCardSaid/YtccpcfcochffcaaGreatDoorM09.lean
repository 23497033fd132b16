/- A part of MarkAsks's proof; no condition. -/
import Derived.Test.YtccpcfcochffcaaGreatDoorM08
set_option linter.all false
set_option maxHeartbeats 8000000
set_option maxRecDepth 100000
namespace Go.Proofs.YtccpcfcochffcaaGreatDoor
open Tryz
open Go.RowKit
variable{k g K yc cap:Nat}{ls:List aK}{v c0 c1 cv fv:an}{w W w3 wr wx w1 w':aj}{M:aS}{t:TypeId}{ya a:dC}{d c:az}{nm s1 s2 s:aT}{o0 o1 o2 o:Obj}{tk tf:Int}
def eu(ls:List aK)(s:aT):Int:=idxOf (λl:aK=>bV l.first.name s) ls
def eC(h:ab M w v ls){l:aK}(hx:ls[k]? =some l):∃b off cap fa fc ca cc,v=xL (some ⟨b,off,none⟩) ls.length cap/\b<w.heap.size/\ab M w (xL fa l.first.fields.length fc) l.first.fields/\ab M w (xL ca l.changes.length cc) l.changes/\l.first.name.size<=maxLen/\∀W,aq w W->aU W b (off+k*3) (xS l.first.name)/\aU W b (off+k*3+1) (xL fa l.first.fields.length fc)/\aU W b (off+k*3+2) (xL ca l.changes.length cc):=by
 obtain⟨a,cap,rfl,hl,_,hc⟩:=h.open_;have hk:=(Qad.1 hx).1;obtain⟨b,off,rfl,_,hb,aG⟩:=hc (by omega);obtain⟨cs,⟨fv,cv,rfl,hf,wT,hn⟩,bD⟩:=aG k l hx;have YR:=hf;have jh:=wT;obtain⟨fa,fc,rfl,_⟩:=YR.open_;obtain⟨ca,cc,rfl,_⟩:=jh.open_;refine⟨b,off,cap,fa,fc,ca,cc,rfl,hb,hf,wT,hn,λW hB=> ?_⟩;have g:∀j u,([xS l.first.name,xL fa l.first.fields.length fc,xL ca l.changes.length cc]:List an)[j]? =some u->aU W b (off+k*3+j) u:=λj u hu=>(hB.cell (p:=⟨b,off+k*3+j,none⟩) hb).trans (bD j u hu);exact⟨g 0 _ rfl,g 1 _ rfl,g 2 _ rfl⟩
def fK(v:an):Obj:=xK #[v] 36
def one_cell(h:W.heap[g]? =some (xK #[c0] t)):W.cell? ⟨g,0,none⟩=some c0:=by simp[World.cell?,h]
def yE(M:aS)(v:an)(w:aj)(ls:List aK)(name:aT)(hs:ab M w v ls)(h8:ls.length<=8)(at_:Int)(is:Bool)(HA:Hd ((if eu ls name<0 then 0 else eu ls name)=at_))(HI:Hd ((!decide (eu ls name<0))=is)):
 xC 42 #[.agg #[v],xS name] w (cN (.tuple #[xI at_,xB is]) w):=by
 have HL:Hd (∀k l,ls[k]? =some l->_):=λk l h=>eC hs h;obtain⟨a,bQ,rfl,cK,hm,_⟩:=hs.open_;clear hs;go_enter func42,ntmps42;go_wp2;go_loopg [4,5,6]ls.length(λg r0 r1 iv wr=>∃k:Nat,k<=ls.length/\g=ls.length-k/\iv=xI k/\r0=xI 0/\r1=xB false/\wr=w.alloc (fK (xL a ls.length bQ))/\Hd (∀y∈ls.take k,bV y.first.name name=false));case atStart=>exact⟨0,Qbf _,rfl,rfl,rfl,rfl,rfl,(show∀y∈_,_ fromλy hy=>by simp at hy)⟩
 case round=>
  obtain⟨k,hk,rfl,rfl,rfl,rfl,rfl,HK⟩:=hrel;have tX:(w.alloc (fK (xL a ls.length bQ))).cell? ⟨w.heap.size,0,none⟩=some (xL a ls.length bQ):=one_cell (Qbh w _);by_cases aX:k<ls.length
  .obtain⟨l,hl⟩:=dQ ls k aX;obtain⟨b,off,cap,fa,fc,ca,cc,hv,cw,_,_,_,aw⟩:=HL.o k l hl;obtain⟨rfl,rfl⟩:=gY hv;obtain⟨q0,_,_⟩:=aw (w.alloc (fK (xL (some ⟨b,off,none⟩) ls.length bQ))) bO;clear aw hv;have DM:=af hl;clear hl;by_cases hq:(l.first.name.toList==name.toList)=true
   .have e0:eu ls name=k:=idxOf_hit (p:=λl:aK=>bV l.first.name name) HK.o DM.o hq;have U7:=af e0;clear e0;go_wp2;go_ret2;exact⟨xY (by rw[<-HA.o,U7.o,if_neg (by omega)]) (by rw[<-HI.o,U7.o];simp),bO⟩
   .go_wp2;go_roundg(ls.length-(k+1));case measure=>omega
    case rel=>
     refine⟨k+1,by omega,rfl,by go_num,rfl,rfl,rfl,(show∀y∈_,_ fromλy hy=> ?_)⟩;rw[Qbb,DM.o]at hy;rcases Qch.1 hy with hy|hy
     .exact HK.o y hy
     .simp at hy;subst hy;simpa [bV]using hq
  .go_wp2;go_ret2;have e0:eu ls name= -1:=kQ (p:=λl:aK=>bV l.first.name name) (by have:=HK.o;rw[show k=ls.length from by omega,List.take_length]at this;exact this);exact⟨xY (by rw[<-HA.o,e0];rfl) (by rw[<-HI.o,e0];rfl),bO⟩
def Hw(nm:aT)(fv:an)(ca:dC)(n cc:Nat)(ver:Int)(h0:0<=ver)(h1:ver<=n)(w:aj):
 xC 81 #[.agg #[xS nm,fv,xL ca n cc],xI ver] w (cN (xB true) w):=by
 go_enter func81,ntmps81;go_wp2;go_ret;exact⟨ba (by first|(simp;done)|(simp;omega)),bO⟩
def VP(M:aS)(w:aj)(os:List Obj)(nm:aT)(d:az)(K:Nat)(ya:dC)(yc:Nat)(wx:aj):Prop:=
 wx.heap[K]? =some (cS nm (xL ya d.fields.length yc))/\ab (dP M w 3) wx (xL ya d.fields.length yc) d.fields/\Bx w os wx/\w.heap.size+3<=K
def xh(h:cI w3 K (xK #[c0,c1] t))(a b:an):((w3.setCell ⟨K,0,none⟩ a).setCell ⟨K,1,none⟩ b).heap[K]? =some (xK #[a,b] t):=by
 have h1:=Qca w3 K 0 _ _ a h;have h2:=Qca _ K 1 _ _ b h1;simpa using h2
def VQ(hb:Bx w [o0,o1,o2] w3)(hs:ab (dP M w 3) w3 (xL ya d.fields.length yc) d.fields)(h3:w.heap.size+3<=w3.heap.size):
 VP M w [o0,o1,o2] nm d w3.heap.size ya yc (w3.alloc (xK #[xS nm,xL ya d.fields.length yc] 101)):=
 ⟨Qbh w3 _,hs.ev ((Ev.refl _ _).alloc _),hb.alloc _,h3⟩
def VR(hb:Bx w [o0,o1,o2] w3)(hs:ab (λi=>dP M w 3 i\/i=K) w3 (xL ya d.fields.length yc) d.fields)(hz:cI w3 K (cS ⟨#[]⟩ (xL none 0 0)))(h3:w.heap.size+3<=K):
 VP M w [o0,o1,o2] nm d K ya yc ((w3.setCell ⟨K,0,none⟩ (xS nm)).setCell ⟨K,1,none⟩ (xL ya d.fields.length yc)):=
 ⟨xh hz _ _,(hs.ev (((Ev.refl _ _).setCell (.inl (.inr rfl)) _).setCell (.inl (.inr rfl)) _)).ev (Ev.eG _ λi hi=> .inl hi),hb.cP (B:=K) ((dK.setCell (Qab K) _).setCell (Qab K) _) h3,h3⟩
def Ks(w:aj)(o:Obj):(w.drew.alloc o).heap.size=w.heap.size+1:=by
 show(w.heap.push o).size=_;simp
def zed(h:Below (w.drew.alloc o).heap.size (w.drew.alloc o) w3):dY w3 w o:=
 (h.block w.heap.size (by rw[Ks];omega)).trans (Qbh w.drew o)
def yF(l:aK)(d:az)(ver:Nat)(hc:cA l.first)(e:az)(QO:cU l.first l.changes e)(hd:cU l.first (l.changes.take ver) d)(hv:ver<=l.changes.length)(h5:l.changes.length<=12)(M:aS)(w:aj)(hM:Bd M w)(fv cv:an)(bR:ab M w fv l.first.fields)(bD:ab M w cv l.changes):
 xG 82 #[.agg #[xS l.first.name,fv,cv],xI ver] w λv w'=>∃jY,v= .tuple #[.agg #[xS l.first.name,jY],xB true]/\ab M w' jY d.fields:=by
 have rT:Hd (∀(c:az)(x:aB)(N:aS)(W:aj)(fv:an),iT c x->cA c->jf c x=true->Bd N W->ab N W fv c.fields->_):=λc x N W fv h1 h2 h3 h4 h5=>yA c x h1.pre h2.right (cz h2.small) h3 N W h4 fv h5;have fu:Hd (∀k e x,cU l.first (l.changes.take k) e->l.changes[k]? =some x->cA e/\iT e x/\jf e x=true/\cU l.first (l.changes.take (k+1)) (bT e x)):=λk e x h1 h2=>⟨h1.ok hc,yB h1 QO h2⟩;have WX:Hd (∀e,cU l.first (l.changes.take ver) e->e=d):=λe h=>h.eq hd;have sd:Hd (∀k x,l.changes[k]? =some x->_):=λk x h=>pC bD h;have im:=af bR;obtain⟨fa,fc,rfl,AW,wP,_⟩:=bR.open_;obtain⟨ca,cc,rfl,WY,WZ,_⟩:=bD.open_;clear bR bD QO hc hd;obtain⟨⟨nm,fs⟩,chs⟩:=l;dsimp only at*;go_enter func82,ntmps82;go_wp2;go_loopg [5,7,8,9]ver(λg r5 iv _ _ wr=>∃(k n cap:Nat)(a:dC),k<=ver/\g=ver-k/\iv=xI k/\r5=xB false/\Hd (LH M w ⟨⟨nm,fs⟩,chs⟩ [cD nm (xL fa fs.length fc) (xL ca chs.length cc),cS ⟨#[]⟩ (xL none 0 0)] 2 k nm a n cap wr));case atStart=>exact⟨0,fs.length,fc,fa,Qbf _,rfl,rfl,rfl,(show LH _ _ _ _ _ _ _ _ _ _ _ from⟨⟨nm,fs⟩,by simpa using cU.nil _,rfl,rfl,im.o.ev (cW (Bx.gI w _ _ _).1),Bx.gI w _ _ _⟩)⟩
 case round=>
  obtain⟨k,n,cap,a,Wu,rfl,rfl,rfl,HS⟩:=hrel;obtain⟨e,Xa,Q1,hel,bo,wE⟩:=HS.o;have bN:=af wE;obtain⟨l0,l1,l2⟩:=aD (bN.o.bJ rfl);obtain⟨o0,o1⟩:=ah (bN.o.gy rfl);have sr:=bN.o.bY;simp only[Qcc,Qcd,Qda]at sr;by_cases aX:k<ver
  .obtain⟨x,hx⟩:=dQ chs k (by omega);obtain⟨b,off,fq,wT,cw,aw⟩:=sd.o k x hx;obtain⟨rfl,rfl⟩:=gY wT;obtain⟨k0,k1,k2,k3⟩:=fu.o k e x Xa hx;have lO:=af k3;have hkc:k<chs.length:=by omega
   obtain⟨q0,q1,q2,q3,q4,q5,q6,q7⟩:=aw wr bN.o.1;have bt:Hd (∀(N:aS)(W:aj),Bd N W->ab N W (xL a n cap) e.fields->xC 135 #[.agg #[xS nm,xL a n cap], .agg #[xI x.kind,xS x.field,xS x.name,xS x.more,xI x.type.kind,xI x.type.of,xS x.expr,xS x.other]] W (bW W λv w'=>∃jY,v= .tuple #[.agg #[xS nm,jY],xI 0]/\ab N w' jY (bT e x).fields)):=λN W h1 h2=>by
    have h:=rT.o e x N W (xL a n cap) k1 k0 k2 h1 h2;rw[Q1]at h;exact h
   have hBW:=dp (M:=M) (w:=w) (n:=3) (W:=wr) hM (by omega);have DN:=af (λo=>bt.o (λi=>dP M w 3 i\/i=wr.heap.size) (wr.drew.alloc o) (λi hi=>by
    rw[Ks];rcases hi with hi|hi
    .have:=hBW i hi;omega
    .omega) (bo.ev ⟨((ai.refl _ _).drew).alloc _,λi hi=>hi.imp_right λh=>Nat.le_of_eq h.symm⟩));have HCB:=af (bt.o (dP M w 3) wr.drew hBW (bo.ev ((Ev.refl _ _).drew)));have U8:=af (λo=>aw (wr.alloc o) (bN.o.alloc o).1);have qa0:=λo=>(U8.o o).1;have qa1:=λo=>(U8.o o).2.1;have qa2:=λo=>(U8.o o).2.2.1;have qa3:=λo=>(U8.o o).2.2.2.1;have qa4:=λo=>(U8.o o).2.2.2.2.1;have qa5:=λo=>(U8.o o).2.2.2.2.2.1;have qa6:=λo=>(U8.o o).2.2.2.2.2.2.1;have qa7:=λo=>(U8.o o).2.2.2.2.2.2.2;have la2:=λo=>(aD ((bN.o.alloc o).bJ rfl)).2.2;have oa0:=λo=>(ah ((bN.o.alloc o).gy rfl)).1;have oa1:=λo=>(ah ((bN.o.alloc o).gy rfl)).2;clear hx wT aw k0 k1 k2 k3 bo wE HS Xa;go_upto_region 5 with fail;go_cut [8,9](λs8 s9 wx=>∃(K:Nat)(ya:dC)(yc:Nat),s8=xP K/\s9=xI 0/\Hd (VP M w [cD nm (xL fa fs.length fc) (xL (some ⟨b,off,none⟩) chs.length cc),cS ⟨#[]⟩ (xL none 0 0),cS nm (xL a n cap)] nm (bT e x) K ya yc wx));case first=>
    go_region_law(first
     |(go_simp;go_at_call 135;first|refine(DN.o _).mono ?_|refine HCB.o.mono ?_
       rintro en w3⟨_,rfl,⟨jY,rfl,bo⟩,bG⟩;obtain⟨ya,yc,rfl,_⟩:=bo.open_;have eE:=af bo;clear bo;have bI:Hd (Bx w [cD nm (xL fa fs.length fc) (xL (some ⟨b,off,none⟩) chs.length cc),cS ⟨#[]⟩ (xL none 0 0),cS nm (xL a n cap)] w3):=(by first|exact bN.o.drew.below bG|exact(bN.o.drew.alloc _).below bG);have s3:=bI.o.bY;simp only[Qcc,Qcd]at s3;try have HZ:=af (zed bG)
       try have z0:=(ah HZ.o).1
       try have z1:=(ah HZ.o).2
       try have y0:=ag HZ.o 0
       try have y1:=ag HZ.o 1));all_goals(go_wp2;go_meet)
    all_goals first
     |exact⟨wr.heap.size,ya,yc,rfl,rfl,(VR bI.o eE.o HZ.o (by omega))⟩
     |exact⟨w3.heap.size,ya,yc,rfl,rfl,(VQ bI.o eE.o (by omega))⟩
   case rest=>
    obtain⟨K,ya,yc,rfl,rfl,HC⟩:=hcut;obtain⟨hC1,hC2,hC3,hC4⟩:=HC.o;obtain⟨d0,d1⟩:=ah hC1;obtain⟨p0,p1⟩:=ah (hC3.gy rfl);obtain⟨f0,f1⟩:=nu (hC3.gy rfl);have neK:w.heap.size+1+1≠K:=by omega
    clear hC1 hC2 hC3;go_wp2;go_roundg(ver-(k+1));case measure=>omega
    case rel=>
     refine⟨k+1,(bT e x).fields.length,yc,ya,by omega,rfl,by go_num,rfl,?_⟩;refine(show LH _ _ _ _ _ _ _ _ _ _ _ from⟨bT e x,lO.o,Q1,rfl,?_,?_⟩)
     .exact HC.o.2.1.ev ((((Ev.refl _ _).setCell (.inl (.inr ⟨by show w.heap.size<=w.heap.size+1+1;omega,by show w.heap.size+1+1<w.heap.size+3;omega⟩)) _).setCell (.inl (.inr ⟨by show w.heap.size<=w.heap.size+1+1;omega,by show w.heap.size+1+1<w.heap.size+3;omega⟩)) _))
     .exact(HC.o.2.2.1.set 2 0 rfl _).set 2 1 rfl _
  .have YO:k=ver:=by omega
   obtain rfl:e=d:=WX.o e (by rw[<-YO];exact Xa);have eE:=af bo;obtain⟨r0,r1⟩:=ah (bN.o.cE rfl);obtain⟨g0,g1⟩:=nu (bN.o.cE rfl);subst hel;clear bo wE HS Xa;go_wp2_with fail;refine Qae (v:= .tuple #[.agg #[xS nm,xL a e.fields.length cap],xB true]) (by simp[results,results82,go_sem,r0,r1]) rfl ⟨_,rfl,⟨_,rfl,?_⟩,?_⟩
   .exact eE.o.ev ((((ep wr).setCell (.inl (.inr ⟨by show w.heap.size<=w.heap.size+1;omega,by show w.heap.size+1<w.heap.size+3;omega⟩)) _).setCell (.inl (.inr ⟨by show w.heap.size<=w.heap.size+1;omega,by show w.heap.size+1<w.heap.size+3;omega⟩)) _))
   .exact(bN.o.1.setCell (by show w.heap.size<=w.heap.size+1;omega) _).setCell (by show w.heap.size<=w.heap.size+1;omega) _
structure eh(l:aK):Prop where
 first:cA l.first
 len:l.changes.length<=5
 chs:∃d,cU l.first l.changes d
structure eI(ls:List aK):Prop where
 len:ls.length<=4
 lines:∀l∈ls,eh l
 apart:∀(k:Nat)(l:aK),ls[k]? =some l->eu ls l.first.name=k
def LK(l:aK)(hl:eh l)(M:aS)(w:aj)(hM:Bd M w)(fv cv:an)(bR:ab M w fv l.first.fields)(bD:ab M w cv l.changes):
 xC 178 #[.agg #[xS l.first.name,fv,cv]] w (cN (xB true) w):=by
 obtain⟨d,hd⟩:=hl.chs;have h5:=hl.len;have HR:=fV (w:=w) (λW hb=>ko M fv W l.first (bR.below hb) (cz hl.first.small) hl.first.right);have HC:=fV (w:=w) (λW hb=>yF l d l.changes.length hl.first d hd (by rw[List.take_length];exact hd) bq (by omega) M W (hM.below hb) fv cv (bR.below hb) (bD.below hb));obtain⟨fa,fc,rfl,AW,wP,_⟩:=bR.open_;obtain⟨ca,cc,rfl,WY,WZ,_⟩:=bD.open_;obtain⟨⟨nm,fs⟩,chs⟩:=l;dsimp only at*;go_enter func178,ntmps178;go_wp2_with fail;refine cG (HR.o _ bO) λw1 aC=> ?_;have HB:=af ((Bx.dR w (cD nm (xL fa fs.length fc) (xL ca chs.length cc))).below aC);obtain⟨l0,l1,l2⟩:=aD (HB.o.bJ rfl);go_wp2_with fail;refine(HC.o _ HB.o.1).mono ?_;rintro e w2⟨_,rfl,⟨jY,rfl,bo⟩,aY⟩;obtain⟨ya,yc,rfl,_⟩:=bo.open_;have aL:=af (HB.o.below aY);go_wp2;go_ret;exact⟨ba (by first|rfl|simp),(aL.o.alloc _).1⟩
def Hx(ls:List aK)(h:eI ls)(M:aS)(w:aj)(hM:Bd M w)(v:an)(hs:ab M w v ls):
 xC 136 #[.agg #[v]] w (cN (.tuple #[xI 0,xI 0]) w):=by
 have h4:=h.len;have HL:Hd (∀k l,ls[k]? =some l->_):=λk l h=>eC hs h;have ek:Hd (∀(k:Nat)(l:aK)W(fv cv:an),ls[k]? =some l->aq w W->ab M w fv l.first.fields->ab M w cv l.changes->_):=λk l W fv cv hk hb h1 h2=>LK l (h.lines l (Qaf hk)) M W (hM.below hb) fv cv (h1.below hb) (h2.below hb);have HF:Hd (∀(k:Nat)(l:aK)W,ls[k]? =some l->aq w W->xC 42 #[.agg #[v],xS l.first.name] W (cN (.tuple #[xI k,xB true]) W)):=λk l W hk hb=>yE M v W ls l.first.name (hs.below hb) (by omega) k true (show _=_ by rw[h.apart k l hk,if_neg (by omega)]) (show _=_ by rw[h.apart k l hk];simp);obtain⟨a,bQ,rfl,cK,hm,_⟩:=hs.open_;go_enter func136,ntmps136;go_wp2;go_loopg [2,3,4,5,6]ls.length(λg r2 r3 iv _ _ wr=>∃k:Nat,k<=ls.length/\g=ls.length-k/\iv=xI k/\r2=xI 0/\r3=xI 0/\Hd (Bx w [fK (xL a ls.length bQ)] wr));case atStart=>exact⟨0,Qbf _,rfl,rfl,rfl,rfl,(Bx.dR w _)⟩
 case round=>
  obtain⟨k,hk,rfl,rfl,rfl,rfl,HX⟩:=hrel;have tX:=one_cell (HX.o.bJ rfl);by_cases aX:k<ls.length
  .obtain⟨l,hl⟩:=dQ ls k aX;obtain⟨b,off,cap,fa,fc,ca,cc,hv,cw,wU,iB,_,aw⟩:=HL.o k l hl;obtain⟨rfl,rfl⟩:=gY hv;obtain⟨q0,q1,q2⟩:=aw wr HX.o.1;have Nr:=af (ek.o k l wr _ _ hl HX.o.1 wU iB);have lI:=af (λW hb=>HF.o k l W hl hb);have tP:=af aw;go_upto_region 8 with(go_at_call 178;refine Nr.o.mono ?_;rintro e w1⟨rfl,aC⟩);have fI:=af (HX.o.below aC);have iB:=one_cell (fI.o.bJ rfl);obtain⟨p0,p1,p2⟩:=tP.o w1 fI.o.1;have xN:=af (lI.o w1.drew fI.o.1.drew);go_region_law(first
    |(go_simp;go_at_call 42;refine xN.o.mono ?_;rintro e w2⟨rfl,aY⟩;have jT:Hd (Bx w [fK (xL (some ⟨b,off,none⟩) ls.length bQ)] w2):=fI.o.drew.below aY));all_goals
    go_wp2;go_roundg(ls.length-(k+1));case measure=>omega
    case rel=>exact⟨k+1,by omega,rfl,by go_num,rfl,rfl,jT⟩
  .go_wp2;go_ret2;exact⟨rfl,HX.o.1⟩
def OD(ls:List aK)(h:eI ls)(M:aS)(w:aj)(hM:Bd M w)(v:an)(hs:ab M w v ls)(n:Nat)(hn:n<ls.length):
 xC 80 #[.agg #[v],xI n] w (cN (xI 0) w):=by
 have h4:=h.len;have HC:=fV (w:=w) (λW hb=>Hx ls h M W (hM.below hb) v (hs.below hb));obtain⟨a,bQ,rfl,cK,hm,_⟩:=hs.open_;go_enter func80,ntmps80;go_wp2_with fail;refine cG (HC.o _ bO) λw1 aC=> ?_;have HB:=af ((Bx.dR w (fK (xL a ls.length bQ))).below aC);have tX:=one_cell (HB.o.bJ rfl);go_wp2;go_ret;exact⟨rfl,HB.o.1⟩
def SS(ls:List aK)(h:eI ls)(M:aS)(w:aj)(hM:Bd M w)(v:an)(hs:ab M w v ls)(n:Nat)(l:aK)(hn:ls[n]? =some l)(ver:Nat)(hv:ver<=l.changes.length)(d:az)(hd:cU l.first (l.changes.take ver) d):
 xG 44 #[.agg #[v],xI n,xI ver] w λv w'=>∃jY,v= .tuple #[.agg #[xS l.first.name,jY],xI 0]/\ab M w' jY d.fields:=by
 have h4:=h.len;have ug:=h.lines l (Qaf hn);have h5:=ug.len;have aX:=(Qad.1 hn).1;obtain⟨b,off,cap,fa,fc,ca,cc,rfl,cw,wU,iB,_,aw⟩:=eC hs hn;have cK:ls.length<=cap/\cap<=9223372036854775807:=by obtain⟨_,_,e,h1,h2,_⟩:=hs.open_;cases e;exact⟨h1,h2⟩
 obtain⟨Q5,Q6⟩:=cK;have HT:=fV (w:=w) (λW hb=>OD ls h M W (hM.below hb) _ (hs.below hb) n aX);have HV:Hd (∀W,_):=λW=>Hw l.first.name (xL fa l.first.fields.length fc) ca l.changes.length cc ver (by omega) (by omega) W;obtain⟨d',hd'⟩:=ug.chs;have HC:Hd (∀W,aq w W->w.heap.size+2<=W.heap.size->_):=λW hb hz=>yF l d ver ug.first d' hd' hd hv (by omega) (dP M w 2) W (dp hM hz) _ _ (wU.ev (cW hb)) (iB.ev (cW hb));have tP:=af aw;obtain⟨⟨nm,fs⟩,chs⟩:=l;dsimp only at*;go_enter func44,ntmps44;go_wp2_with fail;refine cG (HT.o _ (Bx.dh w _ _).1) λw1 aC=> ?_;have HB:=af ((Bx.dh w (fK (xL (some ⟨b,off,none⟩) ls.length cap)) (cS ⟨#[]⟩ (xL none 0 0))).below aC);have tX:=one_cell (HB.o.bJ rfl);obtain⟨q0,q1,q2⟩:=tP.o w1 HB.o.1;go_wp2_with fail;refine cG (HV.o _) λw2 aY=> ?_;have aL:=af (HB.o.below aY);have jh:=one_cell (aL.o.bJ rfl);obtain⟨p0,p1,p2⟩:=tP.o w2 aL.o.1;go_wp2_with fail;refine(HC.o _ aL.o.1 aL.o.bY).mono ?_;rintro e w3⟨_,rfl,⟨jY,rfl,bo⟩,bG⟩;obtain⟨ya,yc,rfl,_⟩:=bo.open_;have eE:=af bo;have bI:=af (aL.o.below bG);have g0:=λo=>(ah ((bI.o.alloc o).cE rfl)).1;have g1:=λo=>(ah ((bI.o.alloc o).cE rfl)).2;have f0:=λo=>ag ((bI.o.alloc o).cE rfl) 0;have f1:=λo=>ag ((bI.o.alloc o).cE rfl) 1;go_wp2_with fail;refine Qae (v:= .tuple #[.agg #[xS nm,xL ya d.fields.length yc],xI 0]) (by simp[results,results44,go_sem,g0,g1]) rfl ⟨_,rfl,⟨_,rfl,?_⟩,?_⟩
 .exact eE.o.ev ((((ep w3).alloc _).setCell (.inl (.inr ⟨by show w.heap.size<=w.heap.size+1;omega,by show w.heap.size+1<w.heap.size+2;omega⟩)) _).setCell (.inl (.inr ⟨by show w.heap.size<=w.heap.size+1;omega,by show w.heap.size+1<w.heap.size+2;omega⟩)) _)
 .exact((bI.o.alloc _).1.setCell (by show w.heap.size<=w.heap.size+1;omega) _).setCell (by show w.heap.size<=w.heap.size+1;omega) _
def OE:∀s∈mn,s.data.toList∈names9:=by decide
def lV(h:iQ c):cA c:=⟨h.1,λf hf=>OE _ (h.2.2.1 f hf),(hU _ h.2.2.2).2⟩
def Cw(n:Int)(fv cv:an):Obj:=xK #[xI n,fv,cv] 111
def Ei {l:List fz}(h:ab M w cv l){x:fz}(hx:l[k]? =some x):∃b off cap,cv=xL (some ⟨b,off,none⟩) l.length cap/\b<w.heap.size/\(I6 x.kind/\I6 x.field/\I6 x.name/\I6 x.more/\I6 x.type.kind/\I6 x.type.of/\I6 x.expr/\I6 x.other)/\∀W,aq w W->aU W b (off+k*8) (xI x.kind)/\aU W b (off+k*8+1) (xI x.field)/\aU W b (off+k*8+2) (xI x.name)/\aU W b (off+k*8+3) (xI x.more)/\aU W b (off+k*8+4) (xI x.type.kind)/\aU W b (off+k*8+5) (xI x.type.of)/\aU W b (off+k*8+6) (xI x.expr)/\aU W b (off+k*8+7) (xI x.other):=by
 obtain⟨a,cap,rfl,hl,_,hc⟩:=h.open_;have hk:=(Qad.1 hx).1;obtain⟨b,off,rfl,_,hb,aG⟩:=hc (by omega);obtain⟨cs,⟨rfl,hi⟩,bD⟩:=aG k x hx;refine⟨b,off,cap,rfl,hb,hi,λW hB=> ?_⟩;have g:∀j u,([xI x.kind,xI x.field,xI x.name,xI x.more,xI x.type.kind,xI x.type.of,xI x.expr,xI x.other]:List an)[j]? =some u->aU W b (off+k*8+j) u:=λj u hu=>(hB.cell (p:=⟨b,off+k*8+j,none⟩) hb).trans (bD j u hu);exact⟨g 0 _ rfl,g 1 _ rfl,g 2 _ rfl,g 3 _ rfl,g 4 _ rfl,g 5 _ rfl,g 6 _ rfl,g 7 _ rfl⟩
def rX(M:aS)(w:aj)(K:Nat):Nat->Prop:=λi=>dP M w 2 i\/i=K
structure yG(M:aS)(w w1:aj)(o0 o1:Obj)(c:az)(fv:an)(K k n:Nat)(a:dC)(cap:Nat)(chs:List aB)(d:az)(wr:aj):Prop where
 cok:cU c chs d
 len:chs.length=n
 le:n<=k
 blk:wr.heap[K]? =some (cD c.name fv (xL a n cap))
 acc:aP (rX M w K) (K+1) 159 wr (xL a n cap) chs
 fs0:ab (dP M w 2) w1 fv c.fields
 low:Below K w1 wr
 kw:K=w1.heap.size
 bx:Bx w [o0,o1] wr
 hK:w.heap.size+2<=K
theorem yG.below {n:Nat}{chs:List aB}(h:yG M w w1 o0 o1 c fv K k n a cap chs d wr)(hb:aq wr wx):yG M w w1 o0 o1 c fv K k n a cap chs d wx:=
 ⟨h.cok,h.len,h.le,(hb.block K (Qaa.1 h.blk).1).trans h.blk,h.acc.below hb,h.fs0,h.low.trans (hb.mono (by have:=(Qaa.1 h.blk).1;omega)),h.kw,h.bx.below hb,h.hK⟩
theorem yG.fs {n:Nat}{chs:List aB}(h:yG M w w1 o0 o1 c fv K k n a cap chs d wr):ab (rX M w K) wr fv c.fields:=
 h.fs0.ev ⟨ai.ao (by rw[<-h.kw];exact h.low),λi hi=>hi.imp_right λe=>by rw[e,h.kw];exact bq⟩
theorem yG.next {n:Nat}{chs:List aB}(h:yG M w w1 o0 o1 c fv K k n a cap chs d wr):yG M w w1 o0 o1 c fv K (k+1) n a cap chs d wr:=
 ⟨h.cok,h.len,Nat.le_succ_of_le h.le,h.blk,h.acc,h.fs0,h.low,h.kw,h.bx,h.hK⟩
def uJ(hM:Bd M w)(hK:w.heap.size+2<=K):∀i,rX M w K i->i<K+1:=λi hi=>by
 rcases hi with(hi|hi)|hi
 .have:=hM i hi;omega
 .omega
 .omega
structure Hy(d:az)(x:aB)(ok:Bool)(wr:aj)(K5:Nat)(wx:aj):Prop where
 blk:wx.heap[K5]? =some (tV x)
 gen:iT d x
 ok:jf d x=ok
 below:aq wr wx
 hK:wr.heap.size<=K5
def Cx {k:Int}{f n m:aT}{ok:Bool}(h1:Hd (iT d ⟨k,f,n,m,⟨tk,tf⟩,s1,s2⟩))(h2:Hd (jf d ⟨k,f,n,m,⟨tk,tf⟩,s1,s2⟩=ok))(hj:aq wr w'):Hy d ⟨k,f,n,m,⟨tk,tf⟩,s1,s2⟩ ok wr w'.heap.size (w'.alloc (xK #[xI k,xS f,xS n,xS m,xI tk,xI tf,xS s1,xS s2] 159)):=
 ⟨Qbh w' _,h1.o,h2.o,hj.alloc hj.size _,hj.size⟩
def Hz {k:Int}{f n m:aT}{ok:Bool}{x0 x1 x2 x3 x4 x5 x6 x7:an}(h1:Hd (iT d ⟨k,f,n,m,⟨tk,tf⟩,s1,s2⟩))(h2:Hd (jf d ⟨k,f,n,m,⟨tk,tf⟩,s1,s2⟩=ok))(hj:aq wr w')(hk:w'.heap[K]? =some (xK #[x0,x1,x2,x3,x4,x5,x6,x7] 159)/\wr.heap.size<=K):
 Hy d ⟨k,f,n,m,⟨tk,tf⟩,s1,s2⟩ ok wr K ((((((((w'.setCell ⟨K,0,none⟩ (xI k)).setCell ⟨K,1,none⟩ (xS f)).setCell ⟨K,2,none⟩ (xS n)).setCell ⟨K,3,none⟩ (xS m)).setCell ⟨K,4,none⟩ (xI tk)).setCell ⟨K,5,none⟩ (xI tf)).setCell ⟨K,6,none⟩ (xS s1)).setCell ⟨K,7,none⟩ (xS s2)):=
 ⟨jt hk.1 _ _ _ _ _ _ _ _,h1.o,h2.o,eT hj hk.2,hk.2⟩
def Ej {t:aR}(h:pB c t s):s.size<=maxLen:=by
 rcases h with h|⟨x,hx⟩
 .have h0:s.size=0:=by rw[<-bh,h];rfl
  rw[h0];exact Qbf _
 .have h1:=hx.parse;unfold ed at h1;split at h1
  .cases h1
  .split at h1
   .split at h1
    .rename_i hh;have:=hh.1;rw[bh]at this;unfold maxLen;omega
    .cases h1
   .cases h1
def LM {k:Int}{f n m:aT}(h:iT d ⟨k,f,n,m,⟨tk,tf⟩,s1,s2⟩)(M:aS)(w:aj):aA.rep (α:=aB) M w [xI k,xS f,xS n,xS m,xI tk,xI tf,xS s1,xS s2] ⟨k,f,n,m,⟨tk,tf⟩,s1,s2⟩:=
 ⟨rfl,h.pre.s1,h.pre.s2,h.pre.s3,Ej h.expr,Ej h.other⟩
abbrev LnS(w:aj)(b off k K:Nat)(r:fz)(cv fv lv:an)(nm:aT)(w':aj):Prop:=w'.cell? ⟨w.heap.size,2,none⟩=some cv/\w'.cell? ⟨b,off+k*8,none⟩=some (xI r.kind)/\w'.cell? ⟨b,off+k*8+1,none⟩=some (xI r.field)/\w'.cell? ⟨b,off+k*8+2,none⟩=some (xI r.name)/\w'.cell? ⟨b,off+k*8+3,none⟩=some (xI r.more)/\w'.cell? ⟨b,off+k*8+4,none⟩=some (xI r.type.kind)/\w'.cell? ⟨b,off+k*8+5,none⟩=some (xI r.type.of)/\w'.cell? ⟨b,off+k*8+6,none⟩=some (xI r.expr)/\w'.cell? ⟨b,off+k*8+7,none⟩=some (xI r.other)/\w'.cell? ⟨K,0,none⟩=some (xS nm)/\w'.cell? ⟨K,1,none⟩=some fv/\w'.cell? ⟨K,2,none⟩=some lv
def LN(x:gZ)(Xf:I6 x.cls.name)(M:aS)(w:aj)(hM:Bd M w)(fv cv:an)(bR:ab M w fv x.cls.fields)(bD:ab M w cv x.changes):
 xG 41 #[.agg #[xI x.cls.name,fv,cv]] w λv w'=>∃l:aK,eh l/\iQ l.first/\bS M w' v l:=by
 obtain⟨i0,dz,dX,cY,dA⟩:=info_parts vF;have im:=af bR;have QQ:Hd (∀k r,x.changes[k]? =some r->_):=λk r h=>Ei bD h;have HCO:Hd (∀W,Bx w [Cw x.cls.name fv cv,cD ⟨#[]⟩ (xL none 0 0) (xL none 0 0)] W->_):=λW hB=>nD (dP M w 2) W (dp hM hB.bY) x.cls fv (im.o.ev (cW hB.1)) Xf;obtain⟨fa,fc,rfl,AW,wP,_⟩:=bR.open_;obtain⟨ca,cc,rfl,WY,WZ,_⟩:=bD.open_;clear bR bD;obtain⟨⟨xn,xfs⟩,U9⟩:=x;dsimp only at*;go_enter func41,ntmps41;go_wp2_with fail;refine(HCO.o _ (Bx.dh w _ _)).mono ?_;rintro e w1⟨_,rfl,⟨c,JQ,_,⟨_,rfl,⟨fv1,rfl,bo,_⟩⟩⟩,aC⟩;obtain⟨ya,yc,rfl,_⟩:=bo.open_;have aO:=af ((Bx.dh w (Cw xn (xL fa xfs.length fc) (xL ca U9.length cc)) (cD ⟨#[]⟩ (xL none 0 0) (xL none 0 0))).below aC);have Va:=af JQ;have eE:=af bo;have s1:=aO.o.bY;simp only[Qcc,Qcd]at s1;clear bo JQ aC;go_wp2_with fail;obtain⟨nm,Af⟩:=c;dsimp only at*;obtain⟨K,hK⟩:=cM (w1.heap.size);have fu:Hd (yG M w w1 (Cw xn (xL fa xfs.length fc) (xL ca U9.length cc)) (cD ⟨#[]⟩ (xL none 0 0) (xL none 0 0)) ⟨nm,Af⟩ (xL ya Af.length yc) K 0 0 none 0 [] ⟨nm,Af⟩ (w1.alloc (xK #[xS nm,xL ya Af.length yc,xL none 0 0] 104))):=⟨.nil _,rfl,bq,by rw[hK];exact Qbh w1 _,aP.nil _ _ _ _,eE.o,dK.alloc (Nat.le_of_eq hK) _,hK,aO.o.alloc _,by omega⟩;rw[<-hK];obtain⟨W1,dS⟩:=cM (w1.alloc (xK #[xS nm,xL ya Af.length yc,xL none 0 0] 104));rw[<-dS]at fu⊢;clear dS hK aO eE;go_loopg [4,5,6]5(λg iv _ _ wr=>∃(k n cap:Nat)(a:dC)(chs:List aB)(d:az),k<=U9.length/\k<=5/\g=5-k/\iv=xI k/\Hd (yG M w w1 (Cw xn (xL fa xfs.length fc) (xL ca U9.length cc)) (cD ⟨#[]⟩ (xL none 0 0) (xL none 0 0)) ⟨nm,Af⟩ (xL ya Af.length yc) K k n a cap chs d wr));case atStart=>exact⟨0,0,0,none,[],_,Qbf _,by omega,rfl,rfl,fu⟩
 case round=>
  obtain⟨k,n,cap,a,chs,d,hk,RT,rfl,rfl,HS⟩:=hrel;obtain⟨l0,l1,l2⟩:=aD (HS.o.bx.bJ rfl);obtain⟨o0,o1,o2⟩:=aD HS.o.blk;have hKr:K<wr.heap.size:=(Qaa.1 HS.o.blk).1;have Vb:=HS.o.hK;have qgq:w.heap.size≠K:=by omega
  have qae:w.heap.size+1≠K:=by omega
  have mA:Hd (∀W',W'=((wr.setCell ⟨w.heap.size+1,0,none⟩ (xS nm)).setCell ⟨w.heap.size+1,1,none⟩ (xL ya Af.length yc)).setCell ⟨w.heap.size+1,2,none⟩ (xL a n cap)->(∃l:aK,eh l/\iQ l.first/\bS M W' (.agg #[xS nm,xL ya Af.length yc,xL a n cap]) l)/\aq w W'):=λW' iL=>by
   have hle:=HS.o.le;have Sa:=HS.o.len;have E:Ev (rX M w K) wr M W':=by
    rw[iL];exact(((Ev.eG wr λi hi=> .inl (.inl hi)).setCell (.inl (.inl (.inr ⟨by simp,by simp⟩))) _).setCell (.inl (.inl (.inr ⟨by simp,by simp⟩))) _).setCell (.inl (.inl (.inr ⟨by simp,by simp⟩))) _
   refine⟨⟨⟨⟨nm,Af⟩,chs⟩,⟨lV Va.o,by show chs.length<=5;omega,d,HS.o.cok⟩,Va.o,_,rfl,_,_,rfl,HS.o.fs.ev E,?_,cz (hU _ Va.o.2.2.2).2⟩,?_⟩
   .exact(HS.o.acc.slice (uJ hM Vb)).ev E
   .rw[iL];exact((HS.o.bx.1.setCell (by simp) _).setCell (by simp) _).setCell (by simp) _
  by_cases aX:k<U9.length
  .by_cases hl5:k<5
   .obtain⟨r,hr⟩:=dQ U9 k aX;obtain⟨b,off,fq,wT,cw,hI,aw⟩:=QQ.o k r hr;obtain⟨rfl,rfl⟩:=gY wT;have Wv:Hd (cA d):=HS.o.cok.ok (lV Va.o);have HD8:Hd (d.fields.length<=8):=((dV _).1 Wv.o.right).2.1;have HDN:Hd (d.name=nm):=HS.o.cok.name;have JR:Hd (∀W,aq wr W->Bd (rX M w K) W):=λW hb i hi=>by have:=uJ hM Vb i hi;have:=hb.size;omega
    have hn5:chs.length<=12:=by have:=HS.o.le;have:=HS.o.len;omega
    have Q7:Hd (∀W,aq wr W->xC 77 #[.agg #[xS nm,xL ya Af.length yc,xL a n cap]] W (bW W λv w'=>∃jY,v= .agg #[xS nm,jY]/\ab (rX M w K) w' jY d.fields)):=λW hb=>LI ⟨⟨nm,Af⟩,chs⟩ d (lV Va.o) HS.o.cok hn5 (rX M w K) W (JR.o W hb) (xL ya Af.length yc) (xL a n cap) (HS.o.fs.below hb) ((HS.o.acc.slice (uJ hM Vb)).below hb);have HCH:Hd (∀W jY,aq wr W->ab (rX M w K) W jY d.fields->xC 76 #[.agg #[xI r.kind,xI r.field,xI r.name,xI r.more,xI r.type.kind,xI r.type.of,xI r.expr,xI r.other], .agg #[xS nm,jY]] W (bW W (OC d))):=λW jY hb hs=>by
     have h:=Eh r hI d Wv.o (rX M w K) W (JR.o W hb) jY hs HD8.o (λf hf=>yx (Wv.o.names f hf));rw[HDN.o]at h;exact h
    have wB:Hd (∀W',aq wr W'->LnS w b off k K r (xL (some ⟨b,off,none⟩) U9.length cc) (xL ya Af.length yc) (xL a n cap) nm W'):=λW' hb=>by
     obtain⟨q0,q1,q2,q3,q4,q5,q6,q7⟩:=aw W' (HS.o.bx.below hb).1;obtain⟨_,_,l2⟩:=aD ((HS.o.bx.below hb).bJ rfl);obtain⟨o0,o1,o2⟩:=aD ((hb.block K hKr).trans HS.o.blk);exact⟨l2,q0,q1,q2,q3,q4,q5,q6,q7,o0,o1,o2⟩
    obtain⟨c0,c1,c2,c3,c4,c5,c6,c7,c8,c9,Xc,c11⟩:=wB.o wr dK;have HJ:Hd (aq wr wr):=dK;clear hr wT aw hI;obtain⟨rk,rf,rn,rm,⟨tk,tf⟩,rx,ro⟩:=r;dsimp only at*;go_upto_region 5 with fail;go_cut [5,6](λs5 s6 wx=>∃(K5:Nat)(x:aB)(ok:Bool),s5=xP K5/\s6=xB ok/\Hd (Hy d x ok wr K5 wx));case first=>
     go_region_held3(λw'=>w'.cell? ⟨w.heap.size,2,none⟩=some (xL (some ⟨b,off,none⟩) U9.length cc)/\w'.cell? ⟨b,off+k*8,none⟩=some (xI rk)/\w'.cell? ⟨b,off+k*8+1,none⟩=some (xI rf)/\w'.cell? ⟨b,off+k*8+2,none⟩=some (xI rn)/\w'.cell? ⟨b,off+k*8+3,none⟩=some (xI rm)/\w'.cell? ⟨b,off+k*8+4,none⟩=some (xI tk)/\w'.cell? ⟨b,off+k*8+5,none⟩=some (xI tf)/\w'.cell? ⟨b,off+k*8+6,none⟩=some (xI rx)/\w'.cell? ⟨b,off+k*8+7,none⟩=some (xI ro)/\w'.cell? ⟨K,0,none⟩=some (xS nm)/\w'.cell? ⟨K,1,none⟩=some (xL ya Af.length yc)/\w'.cell? ⟨K,2,none⟩=some (xL a n cap))
      (with_reducible first|exact wB.o _ HJ.o|exact wB.o _ HJ.o.drew|exact wB.o _ (HJ.o.alloc HJ.o.size _)|exact wB.o _ ((HJ.o.alloc HJ.o.size _).drew)|exact wB.o _ eM.o|exact wB.o _ eM.o.drew|exact wB.o _ (eM.o.alloc eM.o.size _)|exact wB.o _ ((eM.o.alloc eM.o.size _).drew)|exact wB.o _ cR.o|exact wB.o _ cR.o.drew|exact wB.o _ (cR.o.alloc cR.o.size _)|exact wB.o _ ((cR.o.alloc cR.o.size _).drew)|exact wB.o _ (eT cR.o nk.o.2))
      (first
        |(go_at_call 77;with_reducible refine(Q7.o _ (by with_reducible first|exact HJ.o|exact HJ.o.drew|exact HJ.o.alloc HJ.o.size _|exact(HJ.o.alloc HJ.o.size _).drew)).mono ?_
          rintro e wa⟨_,rfl,⟨jY,rfl,bo⟩,hb⟩;have HZL:=af bo;clear bo;try(with_reducible(have HKa:=af (Kq HJ.o hb)))
          try(with_reducible(have HKa:=af (Kr HJ.o hb)))
          have eM:Hd (aq wr wa):=(by with_reducible first|exact af (VN HJ.o hb)|exact af (trB HJ.o hb)|exact af (trC HJ.o hb)|exact af (trD HJ.o hb));clear hb)
        |(go_at_call 76;with_reducible refine(HCH.o _ _ (by with_reducible first|exact eM.o|exact eM.o.drew|exact eM.o.alloc eM.o.size _|exact(eM.o.alloc eM.o.size _).drew) (by with_reducible first|exact HZL.o|exact HZL.o.below bO)).mono ?_
          rintro e wb⟨_,rfl,⟨⟨xk,xf,T4,xm,⟨xt,xo⟩,xe,xz⟩,ok,qao,oS,rfl⟩,hb⟩;have qap:=af qao;have qaq:=af oS;clear qao oS;try(with_reducible(have nk:=af (SR HKa.o hb)))
          try(with_reducible(have nk:=af (Kq eM.o hb)))
          try(with_reducible(have nk:=af (Kr eM.o hb)))
          try with_reducible have k0:=(ak nk.o.1).1
          try with_reducible have k1:=(ak nk.o.1).2.1
          try with_reducible have k2:=(ak nk.o.1).2.2.1
          try with_reducible have k3:=(ak nk.o.1).2.2.2.1
          try with_reducible have k4:=(ak nk.o.1).2.2.2.2.1
          try with_reducible have k5:=(ak nk.o.1).2.2.2.2.2.1
          try with_reducible have k6:=(ak nk.o.1).2.2.2.2.2.2.1
          try with_reducible have k7:=(ak nk.o.1).2.2.2.2.2.2.2
          try with_reducible have y0:=ag nk.o.1 0
          try with_reducible have y1:=ag nk.o.1 1
          try with_reducible have y2:=ag nk.o.1 2
          try with_reducible have y3:=ag nk.o.1 3
          try with_reducible have y4:=ag nk.o.1 4
          try with_reducible have y5:=ag nk.o.1 5
          try with_reducible have y6:=ag nk.o.1 6
          try with_reducible have y7:=ag nk.o.1 7
          have cR:Hd (aq wr wb):=(by with_reducible first|exact af (VN eM.o hb)|exact af (trB eM.o hb)|exact af (trC eM.o hb)|exact af (trD eM.o hb));clear hb));all_goals(go_wp2;go_meet)
     .refine⟨_,⟨xk,xf,T4,xm,⟨xt,xo⟩,xe,xz⟩,ok,rfl,rfl,?_⟩;exact af (Cx qap qaq cR.o)
     all_goals
      refine⟨_,⟨xk,xf,T4,xm,⟨xt,xo⟩,xe,xz⟩,ok,rfl,rfl,?_⟩;exact af (Hz qap qaq cR.o nk.o)
    case rest=>
     obtain⟨K5,x,ok,rfl,rfl,HD⟩:=hcut;obtain⟨wx,Gt⟩:=cM (wc);subst Gt;clear c0 c1 c2 c3 c4 c5 c6 c7 c8 c9 Xc c11 l0 l1 l2 o0 o1 o2;have eB:=af (HS.o.below HD.o.below);have qgr:=HD.o.hK;have Ad:K5<wx.heap.size:=(Qaa.1 HD.o.blk).1;obtain⟨o0,o1,o2⟩:=aD eB.o.blk;have f2:=ag eB.o.blk 2;cases ok with
     |false=>
      go_wp2;go_roundg(5-(k+1));case measure=>omega
      case rel=>exact⟨k+1,n,cap,a,chs,d,by omega,by omega,rfl,by go_num,(eB.o.next)⟩
     |true=>
      obtain⟨⟨xk,xf,T4,xm,⟨xt,xo⟩,xe,xz⟩,hx⟩:∃y,y=x:=⟨x,rfl⟩;subst hx;obtain⟨m0,m1,m2,m3,m4,m5,m6,m7⟩:=ak HD.o.blk;have iJ:=af eB.o.len;have fH:Hd (aA.rep (α:=aB) (bB (xL a n cap) (rX M w K)) (wx.alloc (xK #[xI xk,xS xf,xS T4,xS xm,xI xt,xI xo,xS xe,xS xz] 159)) [xI xk,xS xf,xS T4,xS xm,xI xt,xI xo,xS xe,xS xz] ⟨xk,xf,T4,xm,⟨xt,xo⟩,xe,xz⟩):=LM HD.o.gen _ _;have qgs:n<=5:=by have:=eB.o.le;omega
      have hKx:K<wx.heap.size:=by omega
      go_wp2_with(at_builtin;refine aZ (α:=aB) rfl _ _ _ rfl (rX M w K) (K+1) 159 i0 _ 104 underlying102 dz dX cY dA rfl (by decide) (.slice a n cap) chs rfl (eB.o.acc.alloc _) (λ_=>True) _ _ ⟨xk,xf,T4,xm,⟨xt,xo⟩,xe,xz⟩ rfl (b9 _ _ _ _ rfl trivial) fH.o (by rw[iJ.o];unfold maxLen;omega) (by rw[iJ.o];omega) (by simp;omega) ?_;rw[iJ.o];intro a2 c2 w2 bu dr aY;have cL:=af bu;have qgt:=af dr;have aL:=af aY;have iq:Hd (cI w2 K (cD nm (xL ya Af.length yc) (xL a n cap))):=(aY.block K (by omega)).trans ((Qcb wx _ K hKx).trans eB.o.blk);have p2:=(aD iq.o).2.2;have g2:=ag iq.o 2;clear bu dr aY);go_roundg(5-(k+1));case measure=>omega
      case rel=>
       refine⟨k+1,n+1,c2,a2,chs++[⟨xk,xf,T4,xm,⟨xt,xo⟩,xe,xz⟩],bT d ⟨xk,xf,T4,xm,⟨xt,xo⟩,xe,xz⟩,by omega,by omega,rfl,by go_num,?_⟩;refine(show yG _ _ _ _ _ _ _ _ _ _ _ _ _ _ _ from⟨eB.o.cok.snoc HD.o.gen HD.o.ok,by simp[iJ.o],by have:=eB.o.le;omega,?_,?_,?_,?_,?_,?_,Vb⟩)
       .have:=Qca w2 K 2 _ _ (xL a2 (n+1) c2) iq.o;simpa [cD]using this
       .exact cL.o.uz (p:=⟨K,2,none⟩) (.inr rfl) (by show K<K+1;omega) _
       .exact eB.o.fs0
       .exact(((eB.o.low.alloc (by omega) _).trans (aL.o.mono (by omega))).setCell (Qab K) _)
       .exact eB.o.kw
       .exact((eB.o.bx.alloc _).cP aL.o (by simp;omega)).cP (B:=K) (dK.setCell (Qab K) _) (by simp;omega)
   .obtain⟨r0,r1,r2⟩:=aD (HS.o.bx.cE rfl);obtain⟨g0,g1⟩:=nu (HS.o.bx.cE rfl);have g2:=ag (HS.o.bx.cE rfl) 2;go_wp2_with fail;exact Qae (v:= .agg #[xS nm,xL ya Af.length yc,xL a n cap]) (by simp[results,results41,go_sem,r0,r1,r2]) rfl ⟨_,rfl,mA.o _ rfl⟩
  .obtain⟨r0,r1,r2⟩:=aD (HS.o.bx.cE rfl);obtain⟨g0,g1⟩:=nu (HS.o.bx.cE rfl);have g2:=ag (HS.o.bx.cE rfl) 2;go_wp2_with fail;exact Qae (v:= .agg #[xS nm,xL ya Af.length yc,xL a n cap]) (by simp[results,results41,go_sem,r0,r1,r2]) rfl ⟨_,rfl,mA.o _ rfl⟩
end Go.Proofs.YtccpcfcochffcaaGreatDoor
