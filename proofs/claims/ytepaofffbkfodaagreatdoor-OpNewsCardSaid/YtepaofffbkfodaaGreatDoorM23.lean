/- A part; no condition. -/
import Derived.Test.YtepaofffbkfodaaGreatDoorM21
import Derived.Laws.EntriesVeiled
import Derived.Sort.CutIn
set_option linter.all false
set_option maxHeartbeats 8000000
set_option maxRecDepth 100000
namespace Go.Proofs.YtepaofffbkfodaaGreatDoor
open Go.Proofs.Tryz
open Go.RowKit Go.Shelf
variable{W w' A w wx W2 w3:ax}{M N M':aV}{clk p B j i cap R fr te K k g b yc:Nat}{t:TypeId}{c0 c1 c2 a0 a1 a2 fv cv sv v:aA}{a ya:fx}{us vs:List aJ}{x:aN}{ay:Int}{ls:List aQ}{o:Obj}{nm:aY}
def BX(a b c:aA):Obj:=xK #[a,b,c] 296
def UY(M:aV)(w:ax)(n K:Nat):Nat->Prop:=λi=>dX M w n i\/i=K
def Ht {w:ax}{n K:Nat}(hM:Bd M w)(h:w.heap.size+n<=W)(hK:K<W):Bd (UY M w n K) W:=λi hi=>by
 rcases hi with hi|rfl
 .exact dt hM h i hi
 .exact hK
def Hu {w:ax}{n K:Nat}(h:aC w W)(hK:w<=K):Ev M w (UY M w n K) W:=⟨ao.az h,λi hi=>by
 rcases hi with(hi|hi)|rfl
 .exact .inl hi
 .exact .inr hi.1
 .exact .inr hK⟩
structure qs(w:ax)(os:List Obj)(K:Nat)(nm:aY)(fv:aA)(x:aN)(a:Int)(b:Bool)(g1 g2:aA)(wr:ax):Prop where
 bx:Bx w os wr
 blk:wr.heap[K]? =some (qE nm fv x a b g1 g2)
 hK:w.heap.size+os.length<=K
section
variable {w:ax}{os:List Obj}{K:Nat}{nm:aY}{fv:aA}{x:aN}{a a':Int}{b b':Bool}{g1 g2 g':aA}{wr wx:ax}
theorem qs.ae(h:qs w os K nm fv x a b g1 g2 wr)(k:aC wr wx):qs w os K nm fv x a b g1 g2 wx:=
 ⟨h.bx.ae k,(k.block K (Qaa.1 h.blk).1).trans h.blk,h.hK⟩
theorem qs.lt(h:qs w os K nm fv x a b g1 g2 wr):K<wr:=(Qaa.1 h.blk).1
theorem qs.setAt(h:qs w os K nm fv x a b g1 g2 wr)(hW:wx=(wr.setCell (K,10) a').setCell (K,11) b'):qs w os K nm fv x a' b' g1 g2 wx/\ao (λi=>i=K) wr wx:=by
 subst hW;refine⟨⟨h.bx.dG (B:=K) ((dS.setCell (Qab K) _).setCell (Qab K) _) h.hK,?_,h.hK⟩,((ao.refl (λi=>i=K) wr).setCell (p:=⟨K,10,none⟩) (.inl rfl) _).setCell (p:=⟨K,11,none⟩) (.inl rfl) _⟩;have h1:=Qca wr K 10 _ _ a' h.blk;have h2:=Qca _ K 11 _ _ b' h1;simpa [qE]using h2
theorem qs.YO(h:qs w os K nm fv x a b g1 g2 wr)(hW:wx=wr.setCell (K,12) g'):qs w os K nm fv x a b g' g2 wx/\ao (λi=>i=K) wr wx:=by
 subst hW;refine⟨⟨h.bx.dG (B:=K) (dS.setCell (Qab K) _) h.hK,?_,h.hK⟩,(ao.refl (λi=>i=K) wr).setCell (p:=⟨K,12,none⟩) (.inl rfl) _⟩;have h1:=Qca wr K 12 _ _ g' h.blk;simpa [qE]using h1
theorem qs.OQ(h:qs w os K nm fv x a b g1 g2 wr)(hW:wx=wr.setCell (K,13) g'):qs w os K nm fv x a b g1 g' wx/\ao (λi=>i=K) wr wx:=by
 subst hW;refine⟨⟨h.bx.dG (B:=K) (dS.setCell (Qab K) _) h.hK,?_,h.hK⟩,(ao.refl (λi=>i=K) wr).setCell (p:=⟨K,13,none⟩) (.inl rfl) _⟩;have h1:=Qca wr K 13 _ _ g' h.blk;simpa [qE]using h1
end
def El {k:Int}:∀args w,(callFunc (zm k) args).run prog w= .ok (.enter (zm k) args) w:=by
 unfold zm;repeat' split
 .exact enters_of func290 (by kernel_rfl) rfl
 .exact enters_of func293 (by kernel_rfl) rfl
 .exact enters_of func296 (by kernel_rfl) rfl
 .exact enters_of func299 (by kernel_rfl) rfl
 .exact enters_of func302 (by kernel_rfl) rfl
 .exact enters_of func305 (by kernel_rfl) rfl
def Em {k:Int}:∀args w,(callFunc (vC k) args).run prog w= .ok (.enter (vC k) args) w:=by
 unfold vC;repeat' split
 .exact enters_of func291 (by kernel_rfl) rfl
 .exact enters_of func294 (by kernel_rfl) rfl
 .exact enters_of func297 (by kernel_rfl) rfl
 .exact enters_of func300 (by kernel_rfl) rfl
 .exact enters_of func303 (by kernel_rfl) rfl
 .exact enters_of func306 (by kernel_rfl) rfl
def En {k:Int}:∀args w,(callFunc (sF k) args).run prog w= .ok (.enter (sF k) args) w:=by
 unfold sF;repeat' split
 .exact enters_of func292 (by kernel_rfl) rfl
 .exact enters_of func295 (by kernel_rfl) rfl
 .exact enters_of func298 (by kernel_rfl) rfl
 .exact enters_of func301 (by kernel_rfl) rfl
 .exact enters_of func304 (by kernel_rfl) rfl
 .exact enters_of func298 (by kernel_rfl) rfl
theorem bP.ae {α:Type} [DecidableEq α]{K:α->aA}{w:ax}{b:Nat}{es:List (α×aA×Nat)}(h:bP K w b es clk)(hb:aC w w'):bP K w' b es clk:=
 (hb.block b (Qaa.1 h).1).trans h
theorem pZ.ae {w:ax}{b:Nat}(h:pZ w b p)(hb:aC w w'):pZ w' b p:=by
 obtain⟨es,clk,h0,h1⟩:=h;exact⟨es,clk,h0.ae hb,h1⟩
def AE {K:Nat}(h:bW W K (xK #[c0,c1,c2] t))(a0 a1 a2:aA):(((W.setCell (K,0) a0).setCell (K,1) a1).setCell (K,2) a2).heap[K]? =some (xK #[a0,a1,a2] t):=by
 have h1:=Qca _ K 0 _ _ a0 h;have h2:=Qca _ K 1 _ _ a1 h1;have h3:=Qca _ K 2 _ _ a2 h2;simpa using h3
def nJ {K:Nat}{w:ax}(h:Below B w W)(hK:B<=K):Below B w (((W.setCell (K,0) a0).setCell (K,1) a1).setCell (K,2) a2):=((h.setCell hK _).setCell hK _).setCell hK _
structure UZ(W8:ax)(L:Nat)(a b c:aA)(wx:ax):Prop where
 blk:wx.heap[L]? =some (BX a b c)
 ae:aC W8 wx
 hL:W8<=L
def Hv {W8 w9:ax}{a b c:aA}(hj:aC W8 w9):UZ W8 w9 a b c (w9.alloc (xK #[a,b,c] 296)):=⟨Qbh w9 _,hj.alloc hj.size _,hj.size⟩
def O9 {W8 w9:ax}{L:Nat}{a b c x y z:aA}(hj:aC W8 w9)(hx:bW w9 L (xK #[x,y,z] 296))(hL:W8<=L):UZ W8 L a b c (((w9.setCell (L,0) a).setCell (L,1) b).setCell (L,2) c):=⟨AE hx _ _ _,nJ hj hL,hL⟩
def U0(M:aV)(c:aI)(ay:Int)(x:aN)(fv:aA)(w:ax)(v:aA)(w':ax):Prop:=
 ∃(p:Nat)(g1 g2:aA)(N:aV),v= .tuple #[jx p (zm x.an) (vC x.an) (sF x.an),true]/\(∀i,M i->N i)/\(∀i,N i->M i\/w.heap.size<=i)/\Bd N w'/\
  jg N c ay x.type x.cX w' g1/\jg N c ay x.type x.bZ w' g2/\w'.heap[p]? =some (qE c.ai fv x (qq c x) (hasB c x.field) g1 g2)
def Eo(M:aV)(w:ax)(hM:Bd M w)(c:aI)(hc:cN c)(ay:Int)(hm:ay<=100000)(x:aN)(hx:jc c x)(hb:jo c x=true)(fv:aA)(hfs:ab M w fv c.ah)(hT:Tb w):
 xG 215 #[.agg #[c.ai,fv], .agg #[x.an,x.field,x.ai,x.more,x.type.an,x.type.of,x.cX,x.bZ]] w (U0 M c ay x fv w):=by
 have HM:=ag hM;have iD:=ag hfs;have hcn:=cM hc.small;have HR:Hd (∀W,aC w W->xC 45 #[.agg #[c.ai,fv]] W (cu true W)):=λW hb=>by
  have h:=ff M fv W c (hfs.ae hb) hcn;rw[hc.right]at h;exact h
 have HWF:=gQ (w:=w) (λW h=>zg x (RZ hc hx.pre hb) W (hT.ae h));have HF:=gQ (w:=w) (λW h=>mC M fv W c x.field (qq c x) (hasB c x.field) (hfs.ae h) hcn rfl rfl);have Qx:Hd (∀K W,w.heap.size+3<=K->K<W.heap.size->aC w W->_):=λK W h1 h2 h3=>Au c hc ay hm x.type x.cX hx.cX (UY M w 3 K) W fv (Ht hM (by omega) h2) (hfs.ev (Hu h3 (by omega))) (hT.ae h3);have Qa:Hd (∀K W,w.heap.size+3<=K->K<W.heap.size->aC w W->_):=λK W h1 h2 h3=>Au c hc ay hm x.type x.bZ hx.bZ (UY M w 3 K) W fv (Ht hM (by omega) h2) (hfs.ev (Hu h3 (by omega))) (hT.ae h3);have HMY:Hd (∀(N:aV)W(f1 f2:Nat)(b1 b2:Array aA)(p:Nat),ab N W fv c.ah->bW W p (qE c.ai fv x (qq c x) (hasB c x.field) (.func (.func f1) #[] b1) (.func (.func f2) #[] b2))->_):=λN W f1 f2 b1 b2 p h1 h2=>R3 N W c hc fv x hx.pre hb f1 f2 b1 b2 p h2 h1;have hk:x.an=1\/x.an=2\/x.an=3\/x.an=4\/x.an=5\/x.an=6:=by have:=hx.pre.sh;simp only[nu]at this;omega
 have HK6:=ag hk;obtain⟨fa,fc,rfl,_⟩:=hfs.aq;have cI:=ag (Bx.gj w (cW c.ai (xL fa c.ah.length fc)) (sV x) (BX .nilFunc .nilFunc .nilFunc));clear hfs hM hT hx hb hc hk;go_enter func215,ntmps215;go_wp2_with fail;refine cC (HR.o _ cI.o.1) λw1 hb1=> ?_;have bz:=ag (cI.o.ae hb1);have⟨p0,p1,p2,p3,p4,p5,p6,p7⟩:=aB (bz.o.cg rfl);clear hb1;go_wp2_with fail;refine cC (HWF.o _ bz.o.1) λw2 bE=> ?_;have bg:=ag (bz.o.ae bE);clear bE p0 p1 p2 p3 p4 p5 p6 p7;have⟨p0,p1,p2,p3,p4,p5,p6,p7⟩:=aB (bg.o.cg rfl);have⟨c0,c1⟩:=ak (bg.o.bO rfl);go_upto_region 4 with fail;have⟨K,hK⟩:=jN (w2.heap.size);have⟨W,hW⟩:=bY (w2.alloc (qE c.ai (xL fa c.ah.length fc) x 0 false .nilFunc .nilFunc));have HS:Hd (qs w [cW c.ai (xL fa c.ah.length fc),sV x,BX .nilFunc .nilFunc .nilFunc] K c.ai (xL fa c.ah.length fc) x 0 false .nilFunc .nilFunc W):=⟨by rw[hW];exact bg.o.alloc _,by rw[hW,<-hK];exact Qbh w2 _,by have:=bg.o.bQ;omega⟩;unfold qE at hW;rw[<-hW,hK];clear hW p0 p1 p2 p3 p4 p5 p6 p7 c0 c1;have⟨p0,p1,p2,p3,p4,p5,p6,p7⟩:=aB (HS.o.bx.cg rfl);have⟨c0,c1⟩:=ak (HS.o.bx.bO rfl);go_wp2_with fail;refine cC (HF.o _ HS.o.bx.1) λw3 hb3=> ?_;have jL:=ag (HS.o.ae hb3);have f10:=aj jL.o.blk 10;have f11:=aj jL.o.blk 11;have k10:=(cU jL.o.blk).ca;have k11:=(cU jL.o.blk).cb;have S2:=jL.o.lt;have VY:=jL.o.hK;simp only[Qcc,Qcd]at VY;clear hb3 p0 p1 p2 p3 p4 p5 p6 p7 c0 c1 bg bz cI hK;have⟨p0,p1,p2,p3,p4,p5,p6,p7⟩:=aB (jL.o.bx.cg rfl);have⟨c0,c1⟩:=ak (jL.o.bx.bO rfl);have n0:w≠K:=by omega
 have n1:w.heap.size+1≠K:=by omega
 have n2:w.heap.size+1+1≠K:=by omega
 go_upto_region 5 with fail;have⟨W4,hW4⟩:=bY ((w3.setCell (K,10) (qq c x)).setCell (K,11) (xB (hasB c x.field)));have oq:=ag (jL.o.setAt hW4).1;rw[<-hW4];have HN:=ag (show↑w+3<=K by omega);clear hW4 jL HS f10 f11 k10 k11 S2 p0 p1 p2 p3 p4 p5 p6 p7 c0 c1;have⟨p0,p1,p2,p3,p4,p5,p6,p7⟩:=aB (oq.o.bx.cg rfl);have⟨c0,c1⟩:=ak (oq.o.bx.bO rfl);go_wp2_with fail;refine(Qx.o K _ HN.o oq.o.lt oq.o.bx.1).mono ?_;rintro e w5⟨g1,rfl,ht1,iL⟩;have qds:=ht1;obtain⟨gf1,lb1,rfl,_⟩:=qds;have ot:=ag (oq.o.ae iL);have Wq:=ag ht1;have f12:=aj ot.o.blk 12;have k12:=(cU ot.o.blk).cc;have S2:=ot.o.lt;clear p0 p1 p2 p3 p4 p5 p6 p7 c0 c1;clear iL ht1;go_upto_region 6 with fail;have⟨W6,hW6⟩:=bY (w5.setCell (K,12) (.func (.func gf1) #[] lb1));have ux:=ag (ot.o.YO hW6).1;have HA6:=ag (Wq.o.only ((ot.o.YO hW6).2.mono λi hi=> .inr hi));rw[<-hW6];clear hW6 ot Wq oq f12 k12 S2;have⟨p0,p1,p2,p3,p4,p5,p6,p7⟩:=aB (ux.o.bx.cg rfl);have⟨c0,c1⟩:=ak (ux.o.bx.bO rfl);go_wp2_with fail;refine(Qa.o K _ HN.o ux.o.lt ux.o.bx.1).mono ?_;rintro e w7⟨g2,rfl,ht2,gP⟩;have qdt:=ht2;obtain⟨X0,X1,rfl,_⟩:=qdt;have zH:=ag (ux.o.ae gP);have HA7:=ag (HA6.o.only (ao.az gP));have X2:=ag ht2;have f13:=aj zH.o.blk 13;have k13:=(cU zH.o.blk).cd;have S2:=zH.o.lt;clear gP ht2 p0 p1 p2 p3 p4 p5 p6 p7 c0 c1;go_upto_region 7 with fail;have⟨W8,hW8⟩:=bY (w7.setCell (K,13) (.func (.func X0) #[] X1));have X3:=ag (zH.o.OQ hW8).1;have HA8:=ag (HA7.o.only ((zH.o.OQ hW8).2.mono λi hi=> .inr hi));have Ra:=ag (X2.o.only ((zH.o.OQ hW8).2.mono λi hi=> .inr hi));rw[<-hW8];clear hW8 zH HA7 X2 ux HA6 f13 k13 S2;have⟨p0,p1,p2,p3,p4,p5,p6,p7⟩:=aB (X3.o.bx.cg rfl);have HP:Hd (∀W,aC W8 W->yY W w 0 x.an):=λW hb=>(aB ((X3.o.bx.ae hb).cg rfl)).1;have HJ:Hd (aC W8 W8):=dS;go_cut [7](λs7 wx=>∃L:Nat,s7=xP L/\Hd (UZ W8 L (iV (zm x.an) K) (iV (vC x.an) K) (iV (sF x.an) K) wx));case first=>
  clear p1 p2 p3 p4 p5 p6 p7;have pz:=λo=>HP.o (W8.alloc o) (HJ.o.alloc HJ.o.size o);go_region_law(first
   |(go_simp;go_at_call 262;refine(O0 _ K).mono ?_;rintro en w9⟨bb,rfl,hka,hbb,vu⟩;have Ws:Hd (aC W8 w9):=(by with_reducible first|exact ag (Hq vu)|exact ag (YN vu)|exact ag (YM vu));try with_reducible have CO:=ag (oX2 vu)
     try with_reducible have CO:=ag (oX3 vu)
     have p0':=HP.o w9 Ws.o;have pa0:=λo=>HP.o (w9.alloc o) (Ws.o.alloc Ws.o.size o);have lk:=AD hka HK6.o;have lka:=λo=>AD (hka.ae ((Qbg w9 w9).alloc bT o)) HK6.o;unfold jx iV at lk lka;try have z0:=(aO CO.o).1
     try have z1:=(aO CO.o).2.1
     try have z2:=(aO CO.o).2.2
     try have y0:=aj CO.o 0
     try have y1:=aj CO.o 1
     try have y2:=aj CO.o 2
     clear hka hbb vu));all_goals(go_wp2;go_meet)
  all_goals first
   |exact⟨_,rfl,(Hv Ws.o)⟩
   |exact⟨_,rfl,(O9 Ws.o CO.o bT)⟩
 case rest=>
  obtain⟨L,rfl,HK⟩:=hcut;have⟨wx,hwx⟩:=bY (wc);subst hwx;have T6:=ag (X3.o.ae HK.o.ae);have HA9:=ag (HA8.o.only (ao.az HK.o.ae));have X4:=ag (Ra.o.only (ao.az HK.o.ae));have hLw:=HK.o.hL;have X5:=(Qaa.1 HK.o.blk).1;have hz8:=X3.o.bx.bQ;simp only[Qcc,Qcd]at hz8;have bI:=ag (HMY.o (UY M w 3 K) wx.drew gf1 X0 lb1 X1 K ((iD.o.ev (Hu T6.o.bx.1.drew (by omega)))) T6.o.blk);have hen:=El (k:=x.an);clear p0 p1 p2 p3 p4 p5 p6 p7 HP;generalize hgm:zm x.an=gm at HK bI hen;have⟨k0,k1,k2⟩:=aO HK.o.blk;unfold iV at k0 k1 k2;have I2:Hd (∀W,aC wx W->bW W L (BX (iV gm K) (iV (vC x.an) K) (iV (sF x.an) K))):=λW hb=>(hb.block L X5).trans HK.o.blk;have HJ:Hd (aC wx wx):=dS;have⟨b0,b1,b2⟩:=aO (T6.o.bx.fB rfl);have⟨e0,e1⟩:=mu (T6.o.bx.fB rfl);have e2:=aj (T6.o.bx.fB rfl) 2;have nL:w.heap.size+1+1≠L:=by omega
  go_upto_region 8 with fail;go_cut [5](λs5 wy=>s5=xB true/\Hd (∃w10,qs w [cW c.ai (xL fa c.ah.length fc),sV x,BX .nilFunc .nilFunc .nilFunc] K c.ai (xL fa c.ah.length fc) x (qq c x) (hasB c x.field) (.func (.func gf1) #[] lb1) (.func (.func X0) #[] X1) w10/\aC wx w10/\wy=((w10.setCell ([w,w],0) (iV gm K)).setCell ([w,w],1) (iV (vC x.an) K)).setCell ([w,w],2) (iV (sF x.an) K)));case first=>
   go_region_law(first
    |(go_simp;refine bI.o.mono ?_;rintro en w10⟨rfl,ng⟩;have uz:Hd (aC wx w10):=(Qbg wx wx).drew.trans ng;have MX:=ag (T6.o.ae uz.o);have l0:=(aO (I2.o w10 uz.o)).1;have l1:=(aO (I2.o w10 uz.o)).2.1;have l2:=(aO (I2.o w10 uz.o)).2.2;unfold iV at l0 l1 l2;have r0:=(aO (MX.o.bx.fB rfl)).1;have r1:=(aO (MX.o.bx.fB rfl)).2.1;have r2:=(aO (MX.o.bx.fB rfl)).2.2;have⟨y0,y1⟩:=mu (MX.o.bx.fB rfl);have y2:=aj (MX.o.bx.fB rfl) 2;clear ng));all_goals(go_wp2;go_meet)
   all_goals exact⟨rfl,(show∃_,_ from⟨w10,MX.o,uz.o,rfl⟩)⟩
  case rest=>
   obtain⟨rfl,HZ⟩:=hcut;have⟨w10,h1,h2,h3⟩:=HZ.o;have h4:=h1.bx.fB rfl;have HY:=ag (show bW wc [w,w] (BX (iV gm K) (iV (vC x.an) K) (iV (sF x.an) K))by rw[h3];exact AE h4 _ _ _);have ho:ao (λi=>i=[w,w]) w10 wc:=by
    rw[h3];exact(((ao.refl (λi=>i=[w,w]) w10).setCell (p:=⟨[w,w],0,none⟩) (.inl rfl) _).setCell (p:=⟨[w,w],1,none⟩) (.inl rfl) _).setCell (p:=⟨[w,w],2,none⟩) (.inl rfl) _
   have hoN:ao (UY M w 3 K) wx wc:=(ao.az h2).trans (ho.mono λi hi=> .inl (.inr (by have:i=[w,w]:=hi;omega)));have qdu:=ag (HA9.o.only hoN);have I7:=ag (X4.o.only hoN);have qaj:=ag (ho.at_ h1.blk (λh=>by have:K=[w,w]:=h;omega));have qdv:=ag (show aC w wc by rw[h3];exact nJ h1.bx.1 (by omega));have hKz:K<wc:=(Qaa.1 qaj.o).1;have⟨m0,m1,m2⟩:=aO HY.o;unfold iV at m0 m1 m2;clear h1 h2 h3 h4 ho hoN HZ b0 b1 b2 e0 e1 e2 k0 k1 k2;go_wp2_with fail;refine Qae (v:= .tuple #[.agg #[.func (.func gm) #[xP K] #[], .func (.func (vC x.an)) #[xP K] #[], .func (.func (sF x.an)) #[xP K] #[]],true]) (by simp[results,results215,go_sem,m0,m1,m2]) rfl ⟨_,rfl,⟨K,_,_,UY M w 3 K,?_,λi hi=> .inl (.inl hi),λi hi=> ?_,Ht HM.o (by omega) hKz,qdu.o,I7.o,qaj.o⟩,qdv.o⟩
   .rw[<-hgm];rfl
   .rcases hi with(hi|hi)|hi
    .exact .inl hi
    .exact .inr hi.1
    .exact .inr (by omega)
def LM(M:aV)(w:ax)(hM:Bd M w)(c:aI)(hc:cN c)(x:aN)(hx:jc c x)(hb:jo c x=true)(fv:aA)(hfs:ab M w fv c.ah)(hT:Tb w):
 xG 153 #[.agg #[c.ai,fv], .agg #[x.an,x.field,x.ai,x.more,x.type.an,x.type.of,x.cX,x.bZ]] w λv w'=>∃jK,v= .tuple #[.agg #[c.ai,jK],xI 0]/\ab M w' jK (cw c x).ah:=by
 have hcn:=cM hc.small;have lF:=ag hM;have iD:=ag hfs;have HR:Hd (∀W,aC w W->xC 45 #[.agg #[c.ai,fv]] W (cu true W)):=λW hb=>by
  have h:=ff M fv W c (hfs.ae hb) hcn;rw[hc.right]at h;exact h
 have HB:Hd (∀W,aC w W->w.heap.size+3<=W->_):=λW h h3=>Eo (dX M w 3) W (dt hM h3) c hc 1 (by omega) x hx hb fv (hfs.ev (dj h)) (hT.ae h);have Kc:Hd (∀(N:aV)W g1 g2(p:Nat),Bd N W->ab N W fv c.ah->bW W p (qE c.ai fv x (qq c x) (hasB c x.field) g1 g2)->_):=λN W g1 g2 p h1 h2 h3=>Hs N W h1 c hc fv x hx.pre hb g1 g2 p h3 h2;have hen:=Em (k:=x.an);obtain⟨fa,fc,rfl,_⟩:=hfs.aq;have cI:=ag (Bx.gj w (cW c.ai (xL fa c.ah.length fc)) (sV x) (cW () ()));clear hfs hM hT hx hb hc;go_enter func153,ntmps153;go_wp2_with fail;refine cC (HR.o _ cI.o.1) λw1 hb1=> ?_;have bz:=ag (cI.o.ae hb1);have⟨p0,p1,p2,p3,p4,p5,p6,p7⟩:=aB (bz.o.cg rfl);have⟨c0,c1⟩:=ak (bz.o.bO rfl);clear hb1;go_wp2_with fail;refine(HB.o _ bz.o.1 bz.o.bQ).mono ?_;rintro e w2⟨_,rfl,⟨p,g1,g2,N,rfl,QB,Nk,sU,ht1,ht2,hblk⟩,bE⟩;have bg:=ag (bz.o.ae bE);have J8:=ag sU;have Fq:=ag hblk;have X6:Hd (∀W,aC w W->Ev M w N W):=λW h=>⟨ao.az h,λi hi=>by
  rcases Nk i hi with(h|h)|h
  .exact .inl h
  .exact .inr h.1
  .exact .inr (Qcg bz.o.1.size h)⟩;have vL:Hd (∀i,M i->N i):=λi h=>QB i (.inl h);have tj:Hd (N [w,w]):=QB _ (.inr ⟨by omega,by omega⟩);have hz2:=bg.o.bQ;simp only[Qcc,Qcd]at hz2;clear bE sU hblk QB Nk ht1 ht2 p0 p1 p2 p3 p4 p5 p6 p7 c0 c1;generalize vC x.an=gf at Kc hen⊢;unfold jx iV;go_upto_region 6 with fail;have⟨W3,hW3⟩:=bY (w2.alloc (BX (iV (zm x.an) p) (iV gf p) (iV (sF x.an) p)));have bV:=ag (show Bx w [cW c.ai (xL fa c.ah.length fc),sV x,cW () ()] W3 by rw[hW3];exact bg.o.alloc _);have um:=ag (show dk W3 w2 (BX (iV (zm x.an) p) (iV gf p) (iV (sF x.an) p))by rw[hW3];exact Qbh w2 _);have V1:=ag (show aC w2 W3 by rw[hW3];exact bU);have bI:=ag (Kc.o N W3.drew g1 g2 p (J8.o.ae (w':=W3.drew) V1.o.drew) (iD.o.ev (X6.o W3.drew bV.o.1.drew)) ((V1.o.block p (Qaa.1 Fq.o).1).trans Fq.o));unfold BX iV at hW3;rw[<-hW3];clear hW3;have⟨k0,k1,k2⟩:=aO um.o;have⟨c0,c1⟩:=ak (bV.o.bO rfl);unfold iV at k0 k1 k2;go_cut [5](λs5 wx=>∃(ya:fx)(yc:Nat),s5=xI 0/\Hd (bW wx [w,w] (cW c.ai (xL ya (cw c x).ah.length yc))/\ab M wx (xL ya (cw c x).ah.length yc) (cw c x).ah/\aC w wx));case first=>
  go_region_law(first
   |(go_simp;refine bI.o.mono ?_;rintro en w4⟨_,rfl,hsl,eA⟩;obtain⟨ya,yc,rfl,_⟩:=hsl.aq;have gO:=ag hsl;have ek:Hd (Bx w [cW c.ai (xL fa c.ah.length fc),sV x,cW () ()] w4):=bV.o.drew.ae eA;have q0:=(ak (ek.o.bO rfl)).1;have r0:=(ak (ek.o.fB rfl)).1;have r1:=(ak (ek.o.fB rfl)).2;have⟨f0,f1⟩:=mu (ek.o.fB rfl);clear hsl eA));all_goals(go_wp2;go_meet)
  all_goals
   refine⟨ya,yc,rfl,?_⟩;refine(show _/\_/\_ from⟨rN (ek.o.fB rfl) _ _,((gO.o.ev (((Ev.refl N w4).setCell (p:=⟨[w,w],0,none⟩) (.inl tj.o) _).setCell (p:=⟨[w,w],1,none⟩) (.inl tj.o) _)).ev (Ev.dL _ vL.o)),(ek.o.1.setCell (by show w.heap.size<=[w,w];omega) _).setCell (by show w.heap.size<=[w,w];omega) _⟩)
 case rest=>
  obtain⟨ya,yc,rfl,HR⟩:=hcut;have⟨r0,r1⟩:=ak HR.o.1;go_wp2_with fail;refine Qae (v:= .tuple #[.agg #[c.ai,xL ya (cw c x).ah.length yc],xI 0]) (by simp[results,results153,go_sem,r0,r1]) rfl ⟨_,rfl,⟨_,rfl,HR.o.2.1⟩,HR.o.2.2⟩
def Pa(M:aV)(w:ax)(hM:Bd M w)(c:aI)(hc:cN c)(ay:Int)(hm:ay<=100000)(x:aN)(hx:jc c x)(hb:jo c x=true)(fv vv:aA)(vs:List aJ)(hfs:ab M w fv c.ah)(hvs:ab M w vv vs)(hv:bA c.ah ay vs)(hG:Gd w):
 xG 281 #[.agg #[c.ai,fv], .agg #[x.an,x.field,x.ai,x.more,x.type.an,x.type.of,x.cX,x.bZ],vv] w λv w'=>∃us uv,v= .tuple #[uv,xI 0]/\gZ c x ay vs us/\ab M w' uv us:=by
 have hcn:=cM hc.small;have lF:=ag hM;have iD:=ag hfs;have yS:=ag hvs;have CC:=gQ (w:=w) (λW h=>ik c hc.right hcn ay hm vs hv M W fv vv (hfs.ae h) (hvs.ae h) (hG.tb.ae h));have HB:=gQ (w:=w) (λW h=>Eo M W (hM.ae h) c hc ay hm x hx hb fv (hfs.ae h) (hG.tb.ae h));have CH:Hd (∀(N:aV)W g1 g2(p:Nat),Bd N W->aC w W->jg N c ay x.type x.cX W g1->jg N c ay x.type x.bZ W g2->bW W p (qE c.ai fv x (qq c x) (hasB c x.field) g1 g2)->ab N W vv vs->_):=λN W g1 g2 p h1 h2 h3 h4 h5 h6=>O8 N W h1 c hc fv vv x hx.pre hb g1 g2 ay p vs h3 h4 (hG.ae h2) h5 hv h6;have hen:=En (k:=x.an);obtain⟨fa,fc,rfl,_⟩:=hfs.aq;obtain⟨va,vc,rfl,_⟩:=hvs.aq;have cI:=ag (Bx.du w (cW c.ai (xL fa c.ah.length fc)) (sV x));clear hfs hvs hM hG hx hb hc hv;go_enter func281,ntmps281;go_wp2_with fail;refine cC (CC.o _ cI.o.1) λw1 hb1=> ?_;have bz:=ag (cI.o.ae hb1);have⟨p0,p1,p2,p3,p4,p5,p6,p7⟩:=aB (bz.o.cg rfl);have⟨c0,c1⟩:=ak (bz.o.bO rfl);clear hb1;go_wp2_with fail;refine(HB.o _ bz.o.1).mono ?_;rintro e w2⟨_,rfl,⟨p,g1,g2,N,rfl,QB,Nk,sU,ht1,ht2,hblk⟩,bE⟩;have bg:=ag (bz.o.ae bE);have qgj:Hd (aC w2 w2):=dS;have X6:Hd (ab N w2 (xL va vs.length vc) vs):=yS.o.ev ⟨ao.az bg.o.1,λi hi=>(Nk i hi).imp_right λh=>Qcg bz.o.1.size h⟩;have vL:Hd (∀i,M i->N i):=QB;have I4:=ag (λo=>CH.o N (w2.alloc o) g1 g2 p (sU.ae (dS.alloc bT o)) ((bg.o.alloc o).1) (ht1.only (ao.az (dS.alloc bT o))) (ht2.only (ao.az (dS.alloc bT o))) (((Qbg w2 w2).alloc bT o).block p (Qaa.1 hblk).1|>.trans hblk) (X6.o.ev ((Ev.refl _ _).alloc o)));generalize sF x.an=gf at I4 hen⊢;clear bE sU ht1 ht2 hblk QB Nk p0 p1 p2 p3 p4 p5 p6 p7 c0 c1;unfold jx iV;go_wp2_with fail;refine(I4.o _).mono ?_;rintro e w3⟨u,rfl,⟨us,FP,hsl⟩,hb3⟩;obtain⟨ua,uc,rfl,_⟩:=hsl.aq;have gO:=ag hsl;have HUS:=ag FP;have bV:Hd (aC w w3):=((bg.o.alloc _).ae hb3).1;clear hsl FP hb3;go_wp2;go_ret2;exact⟨_,rfl,⟨_,_,rfl,HUS.o,gO.o.ev (Ev.dL w3 vL.o)⟩,bV.o⟩
section
attribute [local go_sem]Oper.semAt_some
def pg(nm:aY)(fv cv:aA)(w:ax):xC 183 #[.agg #[nm,fv,cv]] w λe w'=>e=xR (.func (.func 246) #[] #[xP w.heap.size])/\w.alloc (cP nm fv cv)=w':=by
 have Cs:∀(fn:Fn)(au cap:Array aA)(w:ax),(Instr.makeFunc fn au cap).run prog w= .ok (.func fn au cap) w:=λ_ _ _ _=>rfl;go_enter func183,ntmps183;go_wp2;go_ret;exact⟨rfl,rfl⟩
def qF(M S:aV)(w:ax):Nat->Prop:=λi=>M i\/S i\/RA w 1 i
def ph(l:aQ)(N:aV)(i:Nat)(args:Array aA)(j:Nat)(A:ax):Prop:=j=i+1/\i<=l.aw.length/\∃jK,args= #[.agg #[l.au.ai,jK],xI 0]/\ab N A jK (aT l i).ah
structure tS(l:aQ)(N:aV)(p:Nat)(w0 w:ax)(fv cv:aA)(i:Nat)(fvc:aA)(A:ax):Prop where
 ae:aC w0 A
 line:A.heap[p]? =some (cP l.au.ai fv cv)
 cL:A.heap[w.heap.size+2]? =some (cW l.au.ai fvc)
 sl:ab N A fvc (aT l i).ah
section
variable {l:aQ}{M S:aV}{p:Nat}{w0 w:ax}{fv cv:aA}{i:Nat}{fvc:aA}{A B:ax}
theorem tS.size(h:tS l (qF M S w) p w0 w fv cv i fvc A):w.heap.size+2<A:=(Qaa.1 h.cL).1
theorem tS.round(h:tS l (qF M S w) p w0 w fv cv i fvc A)(ho:ao (Yw S w) A B)(hS:∀i,S i->w0.heap.size<=i/\i<w.heap.size)(hw:w0.heap.size<=w)(hp:p<w)(hSp:¬S p):tS l (qF M S w) p w0 w fv cv i fvc B:=by
 have hz:=h.size;refine⟨⟨ho.os.trans h.ae.os,ho.tape.trans h.ae.tape,ho.output.trans h.ae.output,Qcg h.ae.size ho.size,λj hj=>(ho.block j (by omega) (λhS'=> ?_)).trans (h.ae.block j hj)⟩,ho.at_ h.line (λh=> ?_),ho.at_ h.cL (λh=> ?_),h.sl.ev ⟨ho.mono λj hj=> ?_,λj hj=> .inl hj⟩⟩
 .rcases hS' with hS'|hS'
  .have:=(hS j hS').1;omega
  .omega
 .rcases h with h|h
  .exact hSp h
  .omega
 .rcases h with h|h
  .have:=(hS _ h).2;omega
  .omega
 .rcases hj with hj|hj
  .exact .inr (.inl hj)
  .exact .inr (.inr ⟨by omega,by omega⟩)
theorem tS.own(h:tS l (qF M S w) p w0 w fv cv i fvc A)(hb:aC A B)(hw:w0.heap.size<=w)(hp:p<w):tS l (qF M S w) p w0 w fv cv i fvc B:=by
 have hz:=h.size;exact⟨h.ae.trans (hb.mono (by omega)),(hb.block p (by omega)).trans h.line,(hb.block _ hz).trans h.cL,h.sl.ae hb⟩
def U1(hM:Bd M w0)(hS:∀i,S i->w0.heap.size<=i/\i<w.heap.size)(hw:w0.heap.size<=w)(hA:w.heap.size+2<A):Bd (qF M S w) A:=λi hi=>by
 rcases hi with hi|hi|hi
 .have:=hM i hi;omega
 .have:=(hS i hi).2;omega
 .have:=hi.2;omega
def U2(hS:∀i,S i->w0.heap.size<=i/\i<w.heap.size)(hw:w0.heap.size<=w)(hb:aC w0 A):Ev M w0 (qF M S w) A:=⟨ao.az hb,λi hi=>by
 rcases hi with hi|hi|hi
 .exact .inl hi
 .exact .inr (hS i hi).1
 .exact .inr (by have:=hi.1;omega)⟩
theorem tS.next(h:tS l (qF M S w) p w0 w fv cv i fvc A){fvn:aA}(hs:ab (qF M S w) A fvn (aT l j).ah)(hw:w0.heap.size<=w)(hp:p<w)
 (hB:B=(A.setCell (w.heap.size+2,0) l.au.ai).setCell (w.heap.size+2,1) fvn):tS l (qF M S w) p w0 w fv cv j fvn B/\ao (Yv w 1) A B:=by
 subst hB;have ho:ao (Yv w 1) A ((A.setCell (w.heap.size+2,0) l.au.ai).setCell (w.heap.size+2,1) fvn):=((ao.refl (Yv w 1) A).setCell (p:=⟨w.heap.size+2,0,none⟩) (.inl ⟨by simp,by simp⟩) _).setCell (p:=⟨w.heap.size+2,1,none⟩) (.inl ⟨by simp,by simp⟩) _;refine⟨⟨h.ae.trans (((dS.setCell (by show w0.heap.size<=↑w+2;omega) _).setCell (by show w0.heap.size<=↑w+2;omega) _)),ho.at_ h.line (λh=>by have:=h.1;omega),rN h.cL _ _,hs.ev ⟨ho.mono λj hj=> .inr (.inr ⟨by have:=hj.1;omega,by have:=hj.2;omega⟩),λj hj=> .inl hj⟩⟩,ho⟩
end
def nK(l:aQ)(hl:ee l)(M S:aV)(p:Nat)(w0 w:ax)(hM:Bd M w0)(hw:aC w0 w)(hT:Tb w0)(fv cv:aA)(hfs:ab M w0 fv l.au.ah)(hcs:ab M w0 cv l.aw)
 (hp:bW w p (cP l.au.ai fv cv))(hSp:¬S p)(hS:∀i,S i->w0.heap.size<=i/\i<w.heap.size):
 KZ prog 246 #[xP p] w S 1 0 (ph l (qF M S w)) (λi=>i=l.aw.length+1):=by
 intro J Jx W hz hb hJ TT hY h0;have HJ:=ag hJ;have HJX:=ag TT;have HY:=ag hY;have Cv:=hw.size;have iy:p<w:=(Qaa.1 hp).1;have SA:Hd (bW W p (cP l.au.ai fv cv)):=(hb.block p iy).trans hp;have qX:Hd (aC w0 W):=hw.trans (hb.mono Cv);have h5:=hl.len;have HR:Hd (∀A,aC w0 A->xC 45 #[.agg #[l.au.ai,fv]] A (cu true A)):=λA hb=>by
  have h:=ff M fv A l.au (hfs.ae hb) (cM hl.au.small);rw[hl.au.right]at h;exact h
 have pL:Hd (∀(i:Nat)(x:aN)A fvc,l.aw[i]? =some x->aC w0 A->w.heap.size+2<A->ab (qF M S w) A fvc (aT l i).ah->xC 153 #[.agg #[l.au.ai,fvc], .agg #[xI x.an,xS x.field,xS x.ai,xS x.more,xI x.type.an,xI x.type.of,xS x.cX,xS x.bZ]] A (cm A λv w'=>∃jK,v= .tuple #[.agg #[l.au.ai,jK],xI 0]/\ab (qF M S w) w' jK (aT l (i+1)).ah)):=λi x A fvc hx hb hA hs=>by
  have⟨h1,h2,h3⟩:=hl.step hx;have h:=LM (qF M S w) A (U1 hM hS Cv hA) (aT l i) (hl.kA i) x h1 h2 fvc hs (hT.ae hb);rw[hl.ai i]at h;rw[h3];exact h
 have om:Hd (∀k x,l.aw[k]? =some x->_):=λk x h=>oP hcs h;have qak:Hd (∀A,aC w0 A->ab (qF M S w) A fv (aT l 0).ah):=λA hb=>hfs.ev (U2 hS Cv hb);have SL:=ag h0;obtain⟨fa,fc,rfl,_⟩:=hfs.aq;obtain⟨ca,cc,rfl,_⟩:=hcs.aq;have⟨l0,l1,l2⟩:=aO SA.o;clear hJ TT hY h0 hT hp hb hfs hcs hw hl;refine callsIn_of_wp func246 rfl trivial ?_ rfl;simp only[ntmps246,List.size_toArray,Qcc,Qcd,Nat.reduceAdd,Nat.reduceSub,Array.replicate_succ,Array.replicate_zero,List.push_toArray,List.append_toArray,List.nil_append,List.cons_append];gi_wp2_with fail;have⟨W1,hW1⟩:=bY (W.alloc (cW l.au.ai (xL fa l.au.ah.length fc)));have S3:aC W W1:=by rw[hW1];exact bU
 have hB1:aC w0 W1:=qX.o.trans (S3.mono (by omega));have X7:Hd (tS l (qF M S w) p w0 w (xL fa l.au.ah.length fc) (xL ca l.aw.length cc) 0 (xL fa l.au.ah.length fc) W1):=⟨hB1,(S3.block p (by omega)).trans SA.o,by rw[hW1,<-hz];exact Qbh W _,qak.o W1 hB1⟩;have Nh:Hd (J 0 W1):=HJ.o 0 W W1 SL.o (ao.az S3);unfold cW at hW1;rw[<-hW1];clear hW1 S3 hB1 l0 l1 l2;refine⟨trivial,rfl,(callsIn_wide.2 (HR.o _ X7.o.ae)).mono ?_⟩;rintro e w1⟨rfl,hb1⟩;have HV2:=ag (X7.o.own hb1 Cv iy);have HJ2:Hd (J 0 w1):=HJ.o 0 W1 w1 Nh.o (ao.az hb1);have⟨c0,c1⟩:=ak HV2.o.cL;have⟨fn,tmps,assign,body,hy,hR⟩:=HY.o 0 #[.agg #[l.au.ai,xL fa l.au.ah.length fc],xI 0] 1 w1 HJ2.o ⟨rfl,Qbf _,_,rfl,HV2.o.sl⟩;have mZ:=ag hR;clear hR hb1;gi_wp2_with fail;refine⟨rfl,mZ.o.mono ?_⟩;rintro e W3(⟨rfl,Qs,vq⟩|⟨rfl,Cw⟩)
 .have TU:=ag Qs;have X8:=ag (HV2.o.round vq hS Cv iy hSp);have⟨l0,l1,l2⟩:=aO X8.o.line;clear Qs vq hy c0 c1;gi_wp2_with fail;gi_loopw [4,6,24](λe4 _ k wr=>∃(i n cap:Nat)(a:fx),e4=xI 0/\k=xI i/\i<=l.aw.length/\Hd (J (i+1) wr)/\Hd (tS l (qF M S w) p w0 w (xL fa l.au.ah.length fc) (xL ca l.aw.length cc) i (xL a n cap) wr))(λ_ _ k _=>l.aw.length-(intOf k).toNat);case atStart=>exact⟨0,l.au.ah.length,fc,fa,rfl,rfl,Qbf _,TU,X8⟩
  case round=>
   obtain⟨i,n,cap,a,rfl,rfl,hi,HJi,HVi⟩:=hrel;clear l0 l1 l2;by_cases bH:i<l.aw.length
   .have⟨x,hx⟩:=eG l.aw i bH;have⟨b,off,cap',hcv,hbl,hcells⟩:=om.o i x hx;obtain⟨rfl,rfl⟩:=iY hcv;have⟨q0,q1,q2,q3,q4,q5,q6,q7⟩:=hcells wr HVi.o.ae;have hzr:=HVi.o.size;have hOA:=λo=>HVi.o.own ((Qbg wr wr).alloc bT o) Cv iy;have d0:=λo=>(ak (hOA o).cL).1;have d1:=λo=>(ak (hOA o).cL).2;have S4:=ag (hOA (sV x));have HJ5:Hd (J (i+1) (wr.alloc (sV x))):=HJ.o _ wr _ HJi.o (ao.az ((Qbg wr wr).alloc bT _));have bI:=ag (pL.o i x (wr.alloc (sV x)) _ hx S4.o.ae S4.o.size S4.o.sl);unfold sV at S4 HJ5 bI;clear hcv hcells hx hOA;gi_wp2_with fail;refine⟨trivial,rfl,(callsIn_wide.2 bI.o).mono ?_⟩;rintro e w6⟨_,rfl,⟨fvn,rfl,ZJ⟩,jn⟩;obtain⟨ya,yc,rfl,_⟩:=ZJ.aq;have S5:=ag (S4.o.own jn Cv iy);have HJ6:Hd (J (i+1) w6):=HJ.o _ _ w6 HJ5.o (ao.az jn);have Wt:=ag ZJ;have⟨m0,m1⟩:=ak S5.o.cL;have⟨f0,f1⟩:=mu S5.o.cL;have⟨W7,hW7⟩:=bY ((w6.setCell (w.heap.size+2,0) l.au.ai).setCell (w.heap.size+2,1) (xL ya (aT l (i+1)).ah.length yc));have⟨hv7,ho7⟩:=S5.o.next (j:=i+1) Wt.o Cv iy hW7;have Wu:=ag hv7;have HJ7:Hd (J (i+1) W7):=HJ.o _ _ W7 HJ6.o ho7;have⟨fn,tmps,assign,body,hy,hR⟩:=HY.o (i+1) #[.agg #[l.au.ai,xL ya (aT l (i+1)).ah.length yc],xI 0] (i+1+1) W7 HJ7.o ⟨rfl,bH,_,rfl,Wu.o.sl⟩;have FM:=ag hR;have⟨s0,s1⟩:=ak Wu.o.cL;have ur:=ag hW7;clear ZJ jn hv7 ho7 hR d0 d1 q0 q1 q2 q3 q4 q5 q6 q7 hW7;gi_upto_region 8 with fail;rw[<-ur.o];clear m0 m1 f0 f1;gi_wp2_with fail;refine⟨rfl,FM.o.mono ?_⟩;rintro e W9(⟨rfl,hJ9,hk9⟩|⟨rfl,qal⟩)
    .have Ws:=ag hJ9;have HV9:=ag (Wu.o.round hk9 hS Cv iy hSp);clear hJ9 hk9 hy s0 s1;gi_wp2_with fail;go_roundw;case rel=>exact⟨i+1,_,yc,ya,rfl,by go_num,bH,Ws,HV9⟩
     case measure=>simp[intOf];omega
    .have qdw:=ag qal;clear qal hy;gi_wp2_with fail;refine Qae (results_none rfl _ _ _) rfl ?_;exact⟨⟨_,rfl⟩, .inr qdw.o⟩
   .obtain rfl:i=l.aw.length:=by omega
    have HJe:=HJi;clear HVi HJi pL om HR HY qak SA qX TU X8;gi_wp2_with fail;refine bodyPost_end (results_none rfl _ _ _) rfl ?_;exact⟨⟨_,rfl⟩, .inl ⟨_,rfl,HJe.o⟩⟩
 .have IX:=ag Cw;clear Cw hy;gi_wp2_with fail;refine Qae (results_none rfl _ _ _) rfl ?_;exact⟨⟨_,rfl⟩, .inr IX.o⟩
end
def pj {l:aQ}{args:Array aA}(h:ph l N i args j A):args.size=2:=by obtain⟨_,_,_,rfl,_⟩:=h;rfl
def LN(l:aQ)(hl:ee l)(M:aV)(w:ax)(hM:Bd M w)(hT:Tb w)(fv cv:aA)(hfs:ab M w fv l.au.ah)(hcs:ab M w cv l.aw):
 xC 124 #[.agg #[l.au.ai,fv,cv]] w (cu true w):=by
 have h5:=hl.len;have yO:Hd (∀p W,aC w W->bW W p (cP l.au.ai fv cv)->KZ prog 246 #[xP p] W xF 1 0 (ph l (qF M xF W)) (λi=>i=l.aw.length+1)):=λp W h1 h2=>
  nK l hl M xF p w W hM h1 hT fv cv hfs hcs h2 (λh=>h) (λi h=>h.elim);obtain⟨fa,fc,rfl,_⟩:=hfs.aq;obtain⟨ca,cc,rfl,_⟩:=hcs.aq;have h12:(l.aw.length:Int)<=12:=by omega
 refine callsIn_wide.1 (callsIn_of_wp_marks (n:=0) func124 rfl trivial (wpIn_wide.2 ?_) rfl);simp only[ntmps124,List.size_toArray,Qcc,Qcd,Nat.reduceAdd,Nat.reduceSub,Array.replicate_succ,Array.replicate_zero,List.push_toArray,List.append_toArray,List.nil_append,List.cons_append];go_wp2_with fail;refine dw (pg _ _ _ _) ?_;go_wp2_with fail;have⟨w2,hw2⟩:=bY (((w.alloc (cP l.au.ai (xL fa l.au.ah.length fc) (xL ca l.aw.length cc))).alloc (M6 false)).alloc (cP l.au.ai (xL fa l.au.ah.length fc) (xL ca l.aw.length cc)));have bg:=ag (show Bx w [cP l.au.ai (xL fa l.au.ah.length fc) (xL ca l.aw.length cc),M6 false,cP l.au.ai (xL fa l.au.ah.length fc) (xL ca l.aw.length cc)] w2 by rw[hw2];exact Bx.gj w _ _ _);have hz2:w2.heap.size=↑w+3:=by rw[hw2];simp
 unfold cP at hw2⊢;unfold M6 at hw2;rw[<-hw2];have SM:=ag (yO.o _ w2 bg.o.1 (bg.o.fB rfl));refine wpIn_wide.1 (nD rfl (enters_of func246 (by kernel_rfl) rfl) xF 1 0 (ph l (qF M xF w2)) (λi=>i=l.aw.length+1) SM.o (λi args i' W h=>pj h) (λi hi=>hi.elim)
  (λ_ W=>Bx w [cP l.au.ai (xL fa l.au.ah.length fc) (xL ca l.aw.length cc),M6 false,cP l.au.ai (xL fa l.au.ah.length fc) (xL ca l.aw.length cc)] W) (λ_ _=>False) (λi A B h ho=>h.only ho (λj hj=>by have:=hj.1;simp;omega)) (λc A B h _=>h) (bg.o) ?hround ?hdone ?hstop);case hstop=>intro c W h;exact h.elim
 case hround=>
  intro k i args i' W hI hTl hsz;obtain⟨rfl,hi,jK,rfl,_⟩:=hTl;have HI:=ag hI;gi_wp2_with(rw[Oper.semAt_eq _ _ _ (λc h=>by cases h)];go_simp;try go_bits);refine⟨ao.refl _ _,λW2 ho2 hzW=> ?_⟩;have mw:Hd (Bx w [cP l.au.ai (xL fa l.au.ah.length fc) (xL ca l.aw.length cc),M6 false,cP l.au.ai (xL fa l.au.ah.length fc) (xL ca l.aw.length cc)] W2):=HI.o.only ho2 (λj hj=>by have:j=[w2]:=hj;simp;omega);gi_wp2_with(rw[Oper.semAt_eq _ _ _ (λc h=>by cases h)];go_simp;try go_bits);exact⟨ao.refl _ _,mw.o⟩
 case hdone=>
  intro i W hE hI hD;have HI:=ag hI;have HD:=ag hD;have b0:yY W w 0 false:=one_cell (HI.o.cg rfl);have f0:=aj (HI.o.cg rfl) 0;go_wp2_with fail;have⟨W',hW'⟩:=bY (W.setCell ([w],0) true);have o1:ao (λj=>j=[w]) W W':=by rw[hW'];exact(ao.refl (λj=>j=[w]) W).setCell (p:=⟨[w],0,none⟩) (.inl rfl) _
  have g1:W'.heap[w.heap.size+1]? =some (M6 true):=by
   rw[hW'];have:=Qca W [w] 0 _ _ true (HI.o.cg rfl);simpa [M6]using this
  rw[<-hW'];have gd:=o1.at_ HD.o (by omega);refine⟨by simp, .inl ⟨_,_,rfl,run_takeDeferred gd,?_⟩⟩;have⟨W2,hW2⟩:=bY (W'.putObj w2 (.deferred none));have o2:ao (λj=>j=w2) W' W2:=by rw[hW2];exact(ao.refl (λj=>j=w2) W').putObj (.inl rfl) _
  have k1:=one_cell (o2.at_ g1 (by omega));rw[<-hW2];refine⟨xB true,by simp[results,results124,go_sem,k1],rfl,?_⟩;exact bq (bq HI.o.1 HI.o.1.size o1 (λj hj=>by have:j=[w]:=hj;omega)) (Qcg HI.o.1.size o1.size) o2 (λj hj=>by have:j=w2:=hj;omega)
def mi(n:Int):Obj:=xK #[n] 3
def Pb(w:ax):Nat->Prop:=λj=>j=[w,w]\/j=[w,w,w]
def MdX(l:aQ)(cQ:Nat)(N:aV)(w:ax)(c:Code)(W:ax):Prop:=
 c= .ret/\aC w W/\∃a n cap,W.heap[w.heap.size+1+1]? =some (cW l.au.ai (xL a n cap))/\ab N W (xL a n cap) (aT l cQ).ah
theorem MdX.only {l:aQ}{cQ:Nat}{B:ax}{c:Code}{S:aV}(h:MdX l cQ N w c A)(ho:ao S A B)(hS:∀j,S j->w.heap.size+3<=j/\N j):MdX l cQ N w c B:=by
 obtain⟨h1,h2,a,n,cap,h3,h4⟩:=h;exact⟨h1,bq h2 h2.size ho (λj hj=>by have:=(hS j hj).1;omega),a,n,cap,ho.at_ h3 (λh=>by have:=(hS _ h).1;omega),h4.ev ⟨ho.mono λj hj=>(hS j hj).2,λj hj=> .inl hj⟩⟩
def R5(l:aQ)(hl:ee l)(cQ:Nat)(hv:cQ<=l.aw.length)(M:aV)(w:ax)(hM:Bd M w)(hT:Tb w)(fv cv:aA)(hfs:ab M w fv l.au.ah)(hcs:ab M w cv l.aw):
 xG 154 #[.agg #[l.au.ai,fv,cv],cQ] w λv w'=>∃jK,v= .agg #[l.au.ai,jK]/\ab M w' jK (aT l cQ).ah:=by
 have h5:=hl.len;have yO:Hd (∀p W,aC w W->w.heap.size+5=W->p=w.heap.size+1+1+1+1->bW W p (cP l.au.ai fv cv)->KZ prog 246 #[xP p] W (Pb w) 1 0 (ph l (qF M (Pb w) W)) (λi=>i=l.aw.length+1)):=λp W h1 h3 h4 h2=>
  nK l hl M (Pb w) p w W hM h1 hT fv cv hfs hcs h2 (λh=>by rcases h with h|h<;>omega) (λi h=>by rcases h with h|h<;>omega);obtain⟨fa,fc,rfl,_⟩:=hfs.aq;obtain⟨ca,cc,rfl,_⟩:=hcs.aq;obtain⟨os,Rb⟩:∃os:Int->List Obj,os=λk=>[cP l.au.ai (xL fa l.au.ah.length fc) (xL ca l.aw.length cc),mi cQ,cW () (),mi k,cP l.au.ai (xL fa l.au.ah.length fc) (xL ca l.aw.length cc)]:=⟨_,rfl⟩;refine callsIn_wide.1 (callsIn_of_wp_marks (n:=0) func154 rfl trivial (wpIn_wide.2 ?_) rfl);simp only[ntmps154,List.size_toArray,Qcc,Qcd,Nat.reduceAdd,Nat.reduceSub,Array.replicate_succ,Array.replicate_zero,List.push_toArray,List.append_toArray,List.nil_append,List.cons_append];go_wp2_with fail;refine dw (pg _ _ _ _) ?_;go_wp2_with fail;have⟨w2,hw2⟩:=bY (((((w.alloc (cP l.au.ai (xL fa l.au.ah.length fc) (xL ca l.aw.length cc))).alloc (mi cQ)).alloc (cW () ())).alloc (mi 0)).alloc (cP l.au.ai (xL fa l.au.ah.length fc) (xL ca l.aw.length cc)));have bg:=ag (show Bx w (os 0) w2 by rw[hw2,Rb];exact Bx.NQ w _ _ _ _ _);have hz2:w2.heap.size=↑w+5:=by rw[hw2];simp
 unfold cP at hw2⊢;unfold mi cW at hw2;rw[<-hw2];have SM:=ag (yO.o _ w2 bg.o.1 hz2.symm rfl (by have h:=bg.o.Xn (o:=cP l.au.ai (xL fa l.au.ah.length fc) (xL ca l.aw.length cc)) (by rw[Rb];rfl);exact h));refine wpIn_wide.1 (nD rfl (enters_of func246 (by kernel_rfl) rfl) (Pb w) 1 0 (ph l (qF M (Pb w) w2)) (λi=>i=l.aw.length+1) SM.o (λi args i' W h=>pj h) (λi hi=>by rcases hi with hi|hi<;>omega)
  (λi W=>i<=cQ/\Bx w (os i) W) (MdX l cQ (qF M (Pb w) w2) w) (λi A B h ho=>⟨h.1,h.2.only ho (λj hj=>by have:=hj.1;rw[Rb];simp;omega)⟩) (λc A B h ho=>h.only ho (λj hj=>⟨by have:=hj.1;omega, .inr (.inr hj)⟩)) ⟨Qbf _,bg.o⟩ ?hround ?hdone ?hstop);case hdone=>
  intro i W hE hI hD;exfalso;have:=hI.1;omega
 case hround=>
  intro k i args i' W hI hTl hsz;obtain⟨rfl,hi,jK,rfl,hsl⟩:=hTl;obtain⟨hiv,hbx⟩:=hI;obtain⟨ya,yc,rfl,_⟩:=hsl.aq;have HI:=ag hbx;have gO:=ag hsl;gi_wp2_with(rw[Oper.semAt_eq _ _ _ (λc h=>by cases h)];go_simp;try go_bits);refine⟨(ao.refl _ W).alloc _,λW2 ho2 hzW=> ?_⟩;have mw:Hd (Bx w (os i) W2):=(HI.o.alloc _).only ho2 (λj hj=>by have:j=[w2]:=hj;rw[Rb];simp;omega);have VM:=ag (ho2.at_ (Qbh W (cW l.au.ai (xL ya (aT l i).ah.length yc))) (by show¬W.heap.size=[w2];omega));have QC:Hd (ab (qF M (Pb w) w2) W2 (xL ya (aT l i).ah.length yc) (aT l i).ah):=gO.o.ev ⟨((ao.refl _ W).alloc _).trans (ho2.mono λj hj=> .inr (.inr (by have:j=[w2]:=hj;exact⟨by omega,by omega⟩))),λj hj=> .inl hj⟩;have⟨p0,p1⟩:=ak VM.o;have v0:yY W2 w 0 cQ:=one_cell (mw.o.cg (by rw[Rb];rfl));have t0:bJ W2 [w,w,w] 0 i:=one_cell (mw.o.Bv (by rw[Rb];rfl));have t1:=aj (mw.o.Bv (o:=mi i) (by rw[Rb];rfl)) 0;have hr2:=mw.o.fB (o:=cW () ()) (by rw[Rb];rfl);have vI:=ag hr2;have⟨r0,r1⟩:=ak hr2;have⟨f0,f1⟩:=mu hr2;by_cases he:i=cQ
  .subst he;gi_wp2_with(rw[Oper.semAt_eq _ _ _ (λc h=>by cases h)];go_simp;try go_bits);have⟨B,hB⟩:=bY ((W2.setCell ([w,w],0) l.au.ai).setCell ([w,w],1) (xL ya (aT l i).ah.length yc));have o1:ao (Pb w) W2 B:=by rw[hB];exact((ao.refl (Pb w) W2).setCell (p:=⟨[w,w],0,none⟩) (.inl (.inl rfl)) _).setCell (p:=⟨[w,w],1,none⟩) (.inl (.inl rfl)) _
   have g1:bW B [w,w] (cW l.au.ai (xL ya (aT l i).ah.length yc)):=by rw[hB];exact rN vI.o _ _
   rw[<-hB];exact⟨o1,rfl,bq mw.o.1 mw.o.1.size o1 (λj hj=>by rcases hj with hj|hj<;>omega),ya,_,yc,g1,QC.o.ev ⟨o1.mono λj hj=> .inr (.inl hj),λj hj=> .inl hj⟩⟩
  .have he2:((i:Int)==(cQ:Int))=false:=by simp;omega
   gi_wp2_with(rw[Oper.semAt_eq _ _ _ (λc h=>by cases h)];go_simp;try go_bits);have⟨B,hB⟩:=bY (W2.setCell ([w,w,w],0) (xI ((i:Int)+1)));have o1:ao (Pb w) W2 B:=by rw[hB];exact(ao.refl (Pb w) W2).setCell (p:=⟨[w,w,w],0,none⟩) (.inl (.inr rfl)) _
   have g1:Bx w (os ((i+1:Nat):Int)) B:=by
    have h:=mw.o.set 3 0 (cs:= #[xI (i:Int)]) (t:=3) (by rw[Rb];rfl) (xI ((i:Int)+1));rw[hB];rw[Rb]at h⊢;exact h
   rw[<-hB];exact⟨o1,by omega,g1⟩
 case hstop=>
  intro c W hX hD;obtain⟨rfl,hb,a,n,cap,h1,h2⟩:=hX;have HD:=ag hD;refine wpIn_wide.2 ?_;dsimp only;go_wp2_with fail;have⟨W2,hW2⟩:=bY (W.putObj w2 (.deferred none));have o2:ao (λj=>j=w2) W W2:=by rw[hW2];exact(ao.refl (λj=>j=w2) W).putObj (.inl rfl) _
  have⟨k0,k1⟩:=ak (o2.at_ h1 (by omega));refine⟨by simp, .inl ⟨_,_,rfl,run_takeDeferred HD.o,?_⟩⟩;rw[<-hW2];refine⟨.agg #[l.au.ai,xL a n cap],by simp[results,results154,go_sem,k0,k1],_,rfl,⟨_,rfl,(h2.ev ⟨o2.mono λj hj=> .inr (.inr (by have:j=w2:=hj;exact⟨by omega,by omega⟩)),λj hj=> .inl hj⟩).ev (Ev.dL W2 λj hj=> .inl hj)⟩,?_⟩;exact bq hb hb.size o2 (λj hj=>by have:j=w2:=hj;omega)
def FdS(ls:List aQ)(ai:aY)(n:Nat)(b:Bool):Prop:=b=true/\n<ls.length/\dx ls ai=n\/b=false/\n=0/\dx ls ai= -1
def AF(M:aV)(v:aA)(w:ax)(ls:List aQ)(ai:aY)(hs:ab M w v ls)(h8:ls.length<=12):
 xC 123 #[.agg #[v],ai] w λe w'=>(∃(n:Nat)(b:Bool),e=xR (.tuple #[n,b])/\FdS ls ai n b)/\aC w w':=by
 have HL:Hd (∀k l,ls[k]? =some l->_):=λk l h=>eL hs h;obtain⟨a,cj,rfl,cY,hm,_⟩:=hs.aq;clear hs;go_enter func123,ntmps123;go_wp2;go_loopg [4,5,6,7,11]ls.length(λg r4 r5 _ _ iv wr=>∃k:Nat,k<=ls.length/\g=ls.length-k/\iv=xI k/\r4=xI 0/\r5=xB false/\Hd (Bx w [eW (xL a ls.length cj)] wr)/\Hd (∀y∈ls.take k,cq y.au.ai ai=false));case atStart=>exact⟨0,Qbf _,rfl,rfl,rfl,rfl,(Bx.eI w _),(show∀y∈_,_ fromλy hy=>by simp at hy)⟩
 case round=>
  obtain⟨k,hk,rfl,rfl,rfl,rfl,HX,HK⟩:=hrel;have hc0:=one_cell (HX.o.bO rfl);by_cases bH:k<ls.length
  .have⟨l,hl⟩:=eG ls k bH;have⟨b,off,cap,fa,fc,ca,cc,hv,hbl,_,_,_,hcells⟩:=HL.o k l hl;obtain⟨rfl,rfl⟩:=iY hv;have⟨q0,q1,q2⟩:=hcells wr HX.o.1;have eZ:=ag (HX.o.alloc (xK #[l.au.ai,xL fa l.au.ah.length fc,xL ca l.aw.length cc] 72));clear hcells hv;have CJ:=ag hl;clear hl;by_cases hq:(l.au.ai.toList==ai.toList)=true
   .have e0:dx ls ai=k:=idxOf_hit (p:=λl:aQ=>cq l.au.ai ai) HK.o CJ.o hq;have XH:=ag e0;clear e0;go_wp2;go_ret2;exact⟨⟨k,true,rfl, .inl ⟨rfl,bH,XH.o⟩⟩,eZ.o.1⟩
   .go_wp2;go_roundg(ls.length-(k+1));case measure=>omega
    case rel=>
     refine⟨k+1,by omega,rfl,by go_num,rfl,rfl,eZ,(show∀y∈ls.take (k+1),_ fromλy hy=> ?_)⟩;rw[Qbb,CJ.o]at hy;rcases Qch.1 hy with hy|hy
     .exact HK.o y hy
     .simp at hy;subst hy;simpa [cq]using hq
  .have XH:=ag (show dx ls ai= -1 from kW (p:=λl:aQ=>cq l.au.ai ai) (by have:=HK.o;rw[show k=ls.length from by omega,List.take_length]at this;exact this));go_wp2;go_ret2;exact⟨⟨0,false,rfl, .inr ⟨rfl,rfl,XH.o⟩⟩,HX.o.1⟩
def Ep(M:aV)(v:aA)(w:ax)(ls:List aQ)(ai:aY)(hs:ab M w v ls)(h8:ls.length<=8)(n:Nat)(hn:dx ls ai=n):
 xC 123 #[.agg #[v],ai] w (cu (.tuple #[n,true]) w):=(AF M v w ls ai hs (by omega)).mono (by
 rintro e w'⟨⟨m,b,rfl,⟨rfl,h1,h2⟩|⟨rfl,rfl,h2⟩⟩,hb⟩
 .exact⟨by rw[show m=n by omega],hb⟩
 .omega)
def mW(ls:List aQ)(h:dF ls)(M:Nat->Prop)(w:World)(hM:Bd M w)(hT:Tb w)(v:Value)(hs:ab M w v ls):
 xC 53 #[.agg #[v]] w (cu (.tuple #[xI 0,xI 0]) w):=by
 have h4:=h.len;have HL:Hd (∀k l,ls[k]? =some l->_):=λk l h=>eL hs h;have eJ:Hd (∀(k:Nat)(l:aQ)W(fv cv:Value),ls[k]? =some l->aC w W->ab M w fv l.au.ah->ab M w cv l.aw->_):=λk l W fv cv hk hb h1 h2=>LN l (h.aK l (Qaf hk)) M W (hM.ae hb) (hT.ae hb) fv cv (h1.ae hb) (h2.ae hb);have HF:Hd (∀(k:Nat)(l:aQ)W,ls[k]? =some l->aC w W->_):=λk l W hk hb=>Ep M v W ls l.au.ai (hs.ae hb) (by omega) k (h.apart k l hk);obtain⟨a,cj,rfl,cY,hm,_⟩:=hs.aq;have h8:(ls.length:Int)<=8:=by omega
 clear hs h;go_enter func53,ntmps53;go_wp2;go_loopg [2,3,4,5,6,7,15]ls.length(λg r2 r3 _ _ _ _ iv wr=>∃k:Nat,k<=ls.length/\g=ls.length-k/\iv=xI k/\r2=xI 0/\r3=xI 0/\Hd (Bx w [eW (xL a ls.length cj)] wr));case atStart=>exact⟨0,Qbf _,rfl,rfl,rfl,rfl,(Bx.eI w _)⟩
 case round=>
  obtain⟨k,hk,rfl,rfl,rfl,rfl,HX⟩:=hrel;have hc0:=one_cell (HX.o.bO rfl);by_cases bH:k<ls.length
  .have⟨l,hl⟩:=eG ls k bH;have⟨b,off,cap,fa,fc,ca,cc,hv,hbl,hf1,hc1,_,hcells⟩:=HL.o k l hl;obtain⟨rfl,rfl⟩:=iY hv;have⟨q0,q1,q2⟩:=hcells wr HX.o.1;have Nf:=gQ (w:=w) (λW hb=>eJ.o k l W _ _ hl hb hf1 hc1);have jq:=ag (λW hb=>HF.o k l W hl hb);have XF:=λo=>one_cell ((HX.o.alloc o).bO rfl);clear hf1 hc1 hv hl hcells;go_upto_region 6 with fail;have⟨W5,hW5⟩:=bY (wr.alloc (xK #[l.au.ai,xL fa l.au.ah.length fc,xL ca l.aw.length cc] 72));have lE:=ag (show Bx w [eW (xL (b,off) ls.length cj)] W5 by rw[hW5];exact HX.o.alloc _);have Cx:=ag (show W5.heap[wr.heap.size]? =some (cP l.au.ai (xL fa l.au.ah.length fc) (xL ca l.aw.length cc))by rw[hW5];exact Qbh wr _);rw[<-hW5];clear hW5 q0 q1 q2 hc0 XF;generalize wr.heap.size=Q at*;have hc0:=one_cell (lE.o.bO rfl);have⟨q0,q1,q2⟩:=aO Cx.o;go_wp2_with fail;refine(jq.o _ lE.o.1).mono ?_;rintro e w6⟨rfl,jn⟩;have yT:=ag (lE.o.ae jn);have HK6:=ag ((jn.block Q (Qaa.1 Cx.o).1).trans Cx.o);clear jn q0 q1 q2 hc0;have⟨q0,q1,q2⟩:=aO HK6.o;go_wp2_with fail;refine(Nf.o _ yT.o.1).mono ?_;rintro e w7⟨rfl,gP⟩;have MW:=ag (yT.o.ae gP);clear gP;go_wp2;go_roundg(ls.length-(k+1));case measure=>omega
   case rel=>exact⟨k+1,by omega,rfl,by go_num,rfl,rfl,MW⟩
  .obtain rfl:k=ls.length:=by omega
   go_wp2;go_ret2;exact⟨rfl,HX.o.1⟩
def ye(ls:List aQ)(h:dF ls)(n:Nat)(l:aQ)(hn:ls[n]? =some l)(M:aV)(w:ax)(hM:Bd M w)(hT:Tb w)(v:aA)(hs:ab M w v ls):
 xC 152 #[.agg #[v],n] w λe w'=>(∃fa fc ca cc,e=xR (.tuple #[.agg #[l.au.ai,xL fa l.au.ah.length fc,xL ca l.aw.length cc],xI 0])/\ab M w (xL fa l.au.ah.length fc) l.au.ah/\ab M w (xL ca l.aw.length cc) l.aw)/\aC w w':=by
 have HC:=gQ (w:=w) (λW hb=>mW ls h M W (hM.ae hb) (hT.ae hb) v (hs.ae hb));have bH:=(Qad.1 hn).1;obtain⟨b,off,cap,fa,fc,ca,cc,rfl,hbl,hf1,hc1,_,hcells⟩:=eL hs hn;have jq:=ag hf1;have yM:=ag hc1;have zB:=ag hcells;have cI:=ag (Bx.du w (eW (xL (b,off) ls.length cap)) (cP () () ()));have hi0:(0:Int)<=(n:Int):=Qba _;have hi1:(n:Int)<(ls.length:Int):=by omega
 go_enter func152,ntmps152;go_wp2_with fail;refine cC (HC.o _ cI.o.1) λw1 hb1=> ?_;have bz:=ag (cI.o.ae hb1);have hc0:=one_cell (bz.o.bO rfl);have⟨q0,q1,q2⟩:=zB.o w1 bz.o.1;have⟨r0,r1,r2⟩:=aO (bz.o.cg rfl);have⟨f0,f1⟩:=mu (bz.o.cg rfl);have f2:=aj (bz.o.cg rfl) 2;go_wp2_with fail;refine Qae (v:= .tuple #[.agg #[l.au.ai,xL fa l.au.ah.length fc,xL ca l.aw.length cc],xI 0]) (by simp[results,results152,go_sem,r0,r1,r2]) rfl ⟨⟨fa,fc,ca,cc,rfl,jq.o,yM.o⟩,nJ bz.o.1 (by omega)⟩
def Er(ls:List aQ)(h:dF ls)(n:Nat)(l:aQ)(hn:ls[n]? =some l)(M:aV)(w:ax)(hM:Bd M w)(hT:Tb w)(v:aA)(hs:ab M w v ls):
 xC 138 #[.agg #[v],n] w (cu (.tuple #[l.aw.length,xI 0]) w):=by
 have HC:=gQ (w:=w) (λW hb=>ye ls h n l hn M W (hM.ae hb) (hT.ae hb) v (hs.ae hb));obtain⟨a,cj,rfl,cY,hm,_⟩:=hs.aq;have cI:=ag (Bx.eI w (eW (xL a ls.length cj)));go_enter func138,ntmps138;go_wp2_with fail;refine(HC.o _ cI.o.1).mono ?_;rintro e w1⟨⟨fa,fc,ca,cc,rfl,_,_⟩,hb1⟩;have bz:=ag (cI.o.ae hb1);go_wp2;go_ret2;exact⟨rfl,(bz.o.alloc _).1⟩
def Hw(ls:List aQ)(h:dF ls)(n:Nat)(l:aQ)(hn:ls[n]? =some l)(cQ:Nat)(hv:cQ<=l.aw.length)(M:aV)(w:ax)(hM:Bd M w)(hT:Tb w)(v:aA)(hs:ab M w v ls):
 xG 139 #[.agg #[v],n,cQ] w λv w'=>∃jK,v= .tuple #[.agg #[l.au.ai,jK],xI 0]/\ab M w' jK (aT l cQ).ah:=by
 have sT:=h.aK l (Qaf hn);have HC:Hd (∀W,aC w W->w.heap.size+2<=W->_):=λW hb hz=>ye ls h n l hn (dX M w 2) W (dt hM hz) (hT.ae hb) v (hs.ev (dj hb));have HMD:Hd (∀W fv cv,aC w W->w.heap.size+2<=W->ab (dX M w 2) W fv l.au.ah->ab (dX M w 2) W cv l.aw->_):=λW fv cv hb hz h1 h2=>R5 l sT cQ hv (dX M w 2) W (dt hM hz) (hT.ae hb) fv cv h1 h2;have h8:=((bC (aT l cQ)).1 (sT.kA cQ).right).2.1;have MO:Hd (∀W fv,w.heap.size+2<=W.heap.size->ab (dX M w 2) W fv (aT l cQ).ah->_):=λW fv hz h1=>me l.au.ai (aT l cQ).ah (by omega) (dX M w 2) W fv (dt hM hz) h1;obtain⟨a,cj,rfl,cY,hm,_⟩:=hs.aq;have cI:=ag (Bx.du w (eW (xL a ls.length cj)) (cW () ()));have hi0:(0:Int)<=(cQ:Int):=Qba _;have hi1:(cQ:Int)<=(l.aw.length:Int):=by omega
 have lF:=ag hM;go_enter func139,ntmps139;go_wp2_with fail;refine(HC.o _ cI.o.1 cI.o.bQ).mono ?_;rintro e w1⟨⟨fa,fc,ca,cc,rfl,hf1,hc1⟩,hb1⟩;have bz:=ag (cI.o.ae hb1);have HMC:Hd (∀o,_):=λo=>HMD.o (w1.alloc o) _ _ (bz.o.alloc o).1 (by have:=bz.o.bQ;simp at this⊢;omega) (hf1.ae (hb1.alloc hb1.size o)) (hc1.ae (hb1.alloc hb1.size o));go_wp2_with fail;refine(HMC.o _).mono ?_;rintro e w2⟨_,rfl,⟨fv,rfl,hsl⟩,bE⟩;obtain⟨ya,yc,rfl,_⟩:=hsl.aq;have bg:=ag ((bz.o.alloc _).ae bE);have yL:=ag (MO.o w2 _ bg.o.bQ hsl);go_wp2_with fail;refine(yL.o).mono ?_;rintro e w3⟨_,rfl,⟨fv3,rfl,qam⟩,hb3⟩;obtain⟨za,zc,rfl,_⟩:=qam.aq;have bV:=ag (bg.o.ae hb3);have jL:=ag qam;have⟨r0,r1⟩:=ak (bV.o.cg rfl);have⟨f0,f1⟩:=mu (bV.o.cg rfl);go_wp2_with fail;refine Qae (v:= .tuple #[.agg #[l.au.ai,xL za (aT l cQ).ah.length zc],xI 0]) (by simp[results,results139,go_sem,r0,r1]) rfl ⟨_,rfl,⟨_,rfl,?_⟩,(bV.o.1.setCell (by show w.heap.size<=[w];omega) _).setCell (by show w.heap.size<=[w];omega) _⟩;exact(jL.o.ev (((Ev.refl _ _).setCell (.inl (.inr ⟨by show w.heap.size<=[w];omega,by show w.heap.size+1<↑w+2;omega⟩)) _).setCell (.inl (.inr ⟨by show w.heap.size<=[w];omega,by show w.heap.size+1<↑w+2;omega⟩)) _)).ev (Ev.dL _ λi hi=> .inl hi)
def zp(n:Int):Obj:=xK #[n] 37
def eS(l:aQ)(fr te i:Nat):List aN:=(l.aw.drop fr).take (min i te-fr)
structure kL(l:aQ)(fr te:Nat)(ay:Int)(vs:List aJ)(N:aV)(V R H F T L:Nat)(fv cv:aA)(i:Nat)(W:ax):Prop where
 gv:W.heap[V]? =some (mi i)
 gr:W.heap[R]? =some (mi fr)
 gf:W.heap[F]? =some (zp 0)
 gt:W.heap[T]? =some (mi te)
 gl:W.heap[L]? =some (cP l.au.ai fv cv)
 gh:∃us a n cap,W.heap[H]? =some (Fz (xL a n cap))/\ab N W (xL a n cap) us/\j5 (aT l fr) (eS l fr te i) ay vs us
def p9(V H F:Nat):Nat->Prop:=λj=>j=V\/j=H\/j=F
structure Es(V R H F T L:Nat):Prop where
 vr:V≠R
 vh:V≠H
 vf:V≠F
 vt:V≠T
 vl:V≠L
 hr:H≠R
 hf:H≠F
 ht:H≠T
 hl:H≠L
 fr:F≠R
 ft:F≠T
 fl:F≠L
section
variable {l:aQ}{fr te:Nat}{ay:Int}{vs:List aJ}{N:aV}{V R H F T L:Nat}{fv cv:aA}{i:Nat}{W W':ax}
theorem kL.only {S:aV}(h:kL l fr te ay vs N V R H F T L fv cv i W)(ho:ao S W W')(hS:∀j,S j->j≠V/\j≠R/\j≠H/\j≠F/\j≠T/\j≠L)(hN:∀j,S j->N j):kL l fr te ay vs N V R H F T L fv cv i W':=by
 have⟨us,a,n,cap,h1,h2,h3⟩:=h.gh;exact⟨ho.at_ h.gv (λh=>(hS _ h).1 rfl),ho.at_ h.gr (λh=>(hS _ h).2.1 rfl),ho.at_ h.gf (λh=>(hS _ h).2.2.2.1 rfl),ho.at_ h.gt (λh=>(hS _ h).2.2.2.2.1 rfl),ho.at_ h.gl (λh=>(hS _ h).2.2.2.2.2 rfl),us,a,n,cap,ho.at_ h1 (λh=>(hS _ h).2.2.1 rfl),h2.ev ⟨ho.mono hN,λj hj=> .inl hj⟩,h3⟩
theorem kL.ae(h:kL l fr te ay vs N V R H F T L fv cv i W)(hb:aC W W'):kL l fr te ay vs N V R H F T L fv cv i W':=
 h.only (S:=λ_=>False) (ao.az hb) (λ_ h=>h.elim) (λ_ h=>h.elim)
theorem kL.tick(h:kL l fr te ay vs N V R H F T L fv cv i W)(hn:Es V R H F T L)(hN:∀j,p9 V H F j->N j)(hc:eS l fr te j=eS l fr te i)(hW:W'=W.setCell (V,0) (xI j)):kL l fr te ay vs N V R H F T L fv cv j W'/\ao (p9 V H F) W W':=by
 have ho:ao (λj=>j=V) W W':=by rw[hW];exact(ao.refl (λj=>j=V) W).setCell (p:=⟨V,0,none⟩) (.inl rfl) _
 have⟨us,a,n,cap,h1,h2,h3⟩:=h.gh;refine⟨⟨?_,ho.at_ h.gr (λh=>hn.vr h.symm),ho.at_ h.gf (λh=>hn.vf h.symm),ho.at_ h.gt (λh=>hn.vt h.symm),ho.at_ h.gl (λh=>hn.vl h.symm),us,a,n,cap,ho.at_ h1 (λh=>hn.vh h.symm),h2.ev ⟨ho.mono λj hj=>hN j (.inl hj),λj hj=> .inl hj⟩,by rw[hc];exact h3⟩,ho.mono λj hj=> .inl hj⟩;have:=Qca W V 0 _ _ j h.gv;rw[hW];simpa [mi]using this
theorem kL.Uy(h:kL l fr te ay vs N V R H F T L fv cv i W)(hn:Es V R H F T L)(hN:∀j,p9 V H F j->N j)(hW:W'=W.setCell (F,0) (xI 0)):kL l fr te ay vs N V R H F T L fv cv i W'/\ao (p9 V H F) W W':=by
 have ho:ao (λj=>j=F) W W':=by rw[hW];exact(ao.refl (λj=>j=F) W).setCell (p:=⟨F,0,none⟩) (.inl rfl) _
 have⟨us,a,n,cap,h1,h2,h3⟩:=h.gh;refine⟨⟨ho.at_ h.gv hn.vf,ho.at_ h.gr (λh=>hn.fr h.symm),?_,ho.at_ h.gt (λh=>hn.ft h.symm),ho.at_ h.gl (λh=>hn.fl h.symm),us,a,n,cap,ho.at_ h1 hn.hf,h2.ev ⟨ho.mono λj hj=>hN j (.inr (.inr hj)),λj hj=> .inl hj⟩,h3⟩,ho.mono λj hj=> .inr (.inr hj)⟩;have:=Qca W F 0 _ _ (xI 0) h.gf;rw[hW];simpa [zp]using this
theorem kL.hold(h:kL l fr te ay vs N V R H F T L fv cv i W)(hn:Es V R H F T L)(hN:∀j,p9 V H F j->N j){n:Nat}(hs:ab N W (xL a n cap) us)(hc:j5 (aT l fr) (eS l fr te (i+1)) ay vs us)
 (hW:W'=(W.setCell (H,0) (xL a n cap)).setCell (F,0) (xI 0)):(∃W1,W1=W'.setCell (V,0) (xI ((i+1:Nat):Int))/\kL l fr te ay vs N V R H F T L fv cv (i+1) W1/\ao (p9 V H F) W W1)/\(W'.heap[V]? =some (mi i)/\W'.heap[F]? =some (zp 0)/\W'.heap[T]? =some (mi te)):=by
 have h1:ao (p9 V H F) W (W.setCell (H,0) (xL a n cap)):=(ao.refl (p9 V H F) W).setCell (p:=⟨H,0,none⟩) (.inl (.inr (.inl rfl))) _;have ho:ao (λj=>j=H\/j=F) W W':=by rw[hW];exact((ao.refl (λj=>j=H\/j=F) W).setCell (p:=⟨H,0,none⟩) (.inl (.inl rfl)) _).setCell (p:=⟨F,0,none⟩) (.inl (.inr rfl)) _
 have⟨_,a0,n0,c0,h0,_,_⟩:=h.gh;have gH:W'.heap[H]? =some (Fz (xL a n cap)):=by
  have e1:=Qca W H 0 _ _ (xL a n cap) h0;rw[hW];refine(Qag _ _ _ _ (by show H≠F;exact hn.hf)).trans ?_;simpa [Fz]using e1
 have gF:W'.heap[F]? =some (zp 0):=by
  have e0:(W.setCell (H,0) (xL a n cap)).heap[F]? =some (zp 0):=(Qag _ _ _ _ (by show F≠H;exactλh=>hn.hf h.symm)).trans h.gf;have e1:=Qca _ F 0 _ _ (xI 0) e0;rw[hW];simpa [zp]using e1
 have gV:=ho.at_ h.gv (λh=>h.elim hn.vh hn.vf);have gT:=ho.at_ h.gt (λh=>h.elim (λh=>hn.ht h.symm) (λh=>hn.ft h.symm));have gR:=ho.at_ h.gr (λh=>h.elim (λh=>hn.hr h.symm) (λh=>hn.fr h.symm));have gL:=ho.at_ h.gl (λh=>h.elim (λh=>hn.hl h.symm) (λh=>hn.fl h.symm));have hoS:ao (p9 V H F) W W':=ho.mono λj hj=> .inr hj;have⟨W1,hW1⟩:=bY (W'.setCell (V,0) (xI ((i+1:Nat):Int)));have o1:ao (λj=>j=V) W' W1:=by rw[hW1];exact(ao.refl (λj=>j=V) W').setCell (p:=⟨V,0,none⟩) (.inl rfl) _
 have gV1:bW W1 V (mi ((i+1:Nat):Int)):=by
  have:=Qca W' V 0 _ _ (xI ((i+1:Nat):Int)) gV;rw[hW1];simpa [mi]using this
 have qan:ao (p9 V H F) W W1:=hoS.trans (o1.mono λj hj=> .inl hj);exact⟨⟨W1,hW1,⟨gV1,o1.at_ gR (λh=>hn.vr h.symm),o1.at_ gF (λh=>hn.vf h.symm),o1.at_ gT (λh=>hn.vt h.symm),o1.at_ gL (λh=>hn.vl h.symm),us,a,n,cap,o1.at_ gH (λh=>hn.vh h.symm),hs.ev ⟨qan.mono hN,λj hj=> .inl hj⟩,hc⟩,qan⟩,gV,gF,gT⟩
end
def AG {l:aQ}{fr te i:Nat}(h:i<=fr):eS l fr te i=[]:=by unfold eS;rw[show min i te-fr=0 by omega];rfl
def po {l:aQ}{fr te i:Nat}(h:i<fr\/te<=i):eS l fr te (i+1)=eS l fr te i:=by
 unfold eS;rcases h with h|h
 .rw[show min (i+1) te-fr=0 by omega,show min i te-fr=0 by omega]
 .rw[show min (i+1) te=min i te by omega]
def Et {l:aQ}{fr te i:Nat}(h1:fr<=i)(h2:i<te)(hx:l.aw[i]? =some x):eS l fr te (i+1)=eS l fr te i++[x]:=by
 unfold eS;rw[show min (i+1) te-fr=(i-fr)+1 by omega,show min i te-fr=i-fr by omega,Qbb];congr 1;rw[List.getElem?_drop,show fr+(i-fr)=i by omega,hx];rfl
def Hx {l:aQ}(hl:ee l){fr te i:Nat}(h1:fr<=i)(h2:i<=te):dm (aT l fr) (eS l fr te i) (aT l i):=by
 have h:=(hl.from_ fr).at_ (i-fr);rw[oU,show fr+(i-fr)=i by omega]at h;unfold eS;rw[show min i te=i by omega];exact h
def Eu(l:aQ)(fr te:Nat)(ay:Int)(vs:List aJ)(N:aV)(V R H F T L:Nat)(fv cv:aA)(i:Nat)(W wx:ax):Prop:=
 (∃W1,W1=wx.setCell (V,0) (xI ((i+1:Nat):Int))/\kL l fr te ay vs N V R H F T L fv cv (i+1) W1/\ao (p9 V H F) W W1)/\(wx.heap[V]? =some (mi i)/\wx.heap[F]? =some (zp 0)/\wx.heap[T]? =some (mi te))
theorem kL.Tj {l:aQ}{V H F T L:Nat}(h:kL l fr te ay vs N V R H F T L fv cv i wx)(hn:Es V R H F T L)(hN:∀j,p9 V H F j->N j)(ho:ao (p9 V H F) W wx)(hc:eS l fr te (i+1)=eS l fr te i):Eu l fr te ay vs N V R H F T L fv cv i W wx:=by
 have⟨h1,h2⟩:=h.tick hn hN hc (W':=wx.setCell (V,0) (xI ((i+1:Nat):Int))) rfl;exact⟨⟨_,rfl,h1,ho.trans h2⟩,h.gv,h.gf,h.gt⟩
def LO(l:aQ)(hl:ee l)(fr te i:Nat)(Q0:fr<=te)(hte:te<=l.aw.length)(hi:i<=te)(ay:Int)(hm:ay<=100000)(vs:List aJ)(M N:Nat->Prop)(V R H F T L:Nat)(fv cv fvc:Value)(hn:Es V R H F T L)(w0 W:World)
 (hS:∀j,p9 V H F j->N j)(hSw:∀j,p9 V H F j->w0.heap.size<=j)(hN:Bd N W)(hb0:aC w0 W)(hG:Gd w0)(hcs:ab M w0 cv l.aw)(hsl:ab N W fvc (aT l i).ah)(hst:kL l fr te ay vs N V R H F T L fv cv i W):
 xC 280 #[.agg #[l.au.ai,fvc],xP V,xP R,xP H,xP F,xP T,xP L] W λe W'=>e=xR (xB (decide (i+1<=te)))/\kL l fr te ay vs N V R H F T L fv cv (i+1) W'/\ao (p9 V H F) W W':=by
 have hi5:(i:Int)<=12:=by have:=hl.len;omega
 obtain⟨Rc,Re,rfl,_⟩:=hsl.aq;have⟨W1,hW1⟩:=bY (W.alloc (cW l.au.ai (xL Rc (aT l i).ah.length Re)));have hbW:aC W W1:=by rw[hW1];exact bU
 have ia:Hd (kL l fr te ay vs N V R H F T L fv cv i W1):=hst.ae hbW;have HQ:=ag (show W1.heap[W.heap.size]? =some (cW l.au.ai (xL Rc (aT l i).ah.length Re))by rw[hW1];exact Qbh W _);have gO:Hd (ab N W1 (xL Rc (aT l i).ah.length Re) (aT l i).ah):=hsl.ae hbW;have iW:Hd (aC w0 W1):=hb0.trans (hbW.mono hb0.size);have q9:Hd (ao (p9 V H F) W W1):=ao.az hbW;have ni:Hd (Bd N W1):=hN.ae hbW;have hQz:W.heap.size<W1:=(Qaa.1 HQ.o).1;have HQS:Hd (∀j,p9 V H F j->j≠W.heap.size):=λj hj h=>by
  have h2:=hN j (hS j hj);omega
 generalize hQ:W.heap.size=Q at HQ hQz HQS;have CC:Hd (∀A us hv,aC w0 A->ab N A (xL Rc (aT l i).ah.length Re) (aT l i).ah->ab N A hv us->bA (aT l i).ah ay us->xC 141 #[.agg #[l.au.ai,xL Rc (aT l i).ah.length Re],hv] A (cu (.tuple #[xI 0,xI 0]) A)):=λA us hv h1 h2 h3 h4=>by
  have h:=ik (aT l i) (hl.kA i).right (cM (hl.kA i).small) ay hm us h4 N A _ hv h2 h3 (hG.tb.ae h1);rw[hl.ai i]at h;exact h
 have HVX:Hd (∀x A us hv,l.aw[i]? =some x->aC w0 A->Bd N A->ab N A (xL Rc (aT l i).ah.length Re) (aT l i).ah->ab N A hv us->bA (aT l i).ah ay us->xC 281 #[.agg #[l.au.ai,xL Rc (aT l i).ah.length Re], .agg #[xI x.an,xS x.field,xS x.ai,xS x.more,xI x.type.an,xI x.type.of,xS x.cX,xS x.bZ],hv] A (cm A λv w'=>∃us' uv,v= .tuple #[uv,xI 0]/\gZ (aT l i) x ay us us'/\ab N w' uv us')):=λx A us hv hx h1 hA h2 h3 h4=>by
  have⟨g1,g2,_⟩:=hl.step hx;have h:=Pa N A hA (aT l i) (hl.kA i) ay hm x g1 g2 _ hv us h2 h3 h4 (hG.ae h1);rw[hl.ai i]at h;exact h
 have om:Hd (∀x,l.aw[i]? =some x->_):=λx h=>oP hcs h;have HCS:Hd (fr<=i->dm (aT l fr) (eS l fr te i) (aT l i)):=λh=>Hx hl h hi;have HWX:=ag hW1;have Wt:=ag hS;have Fo:=ag hn;have HSW:=ag hSw;have HQE:=ag hQ;clear hbW hst hsl hW1 hQ hcs hG hl hb0 hN hS hSw hn;go_enter func280,ntmps280;go_upto_region 1 with fail;have hW1:=HWX.o;unfold cW at hW1;rw[<-hW1,HQE.o];clear hW1;have v0:=one_cell ia.o.gv;have r0:=one_cell ia.o.gr;go_upto_if 11 with fail;go_cut [](λwx=>Hd (kL l fr te ay vs N V R H F T L fv cv i wx/\ao (p9 V H F) W1 wx));case first=>
  by_cases he:i=fr
  .have e1:((i:Int)==(fr:Int))=true:=by simp;omega
   have⟨us,ha,hn',hc',hh1,hh2,hh3⟩:=ia.o.gh;have hv0:bA (aT l i).ah ay us:=by
    have h:=hh3.1;rw[AG (by omega)]at h;rw[he];exact h
   have yM:=ag (CC.o W1 us _ iW.o gO.o hh2 hv0);have h0:=one_cell hh1;have⟨q0,q1⟩:=ak HQ.o;clear hh1 hh2 hh3 hv0 he;go_wp2_with fail;refine(yM.o).mono ?_;rintro e w3⟨rfl,hb3⟩;have jL:=ag (ia.o.ae hb3);have uw:=ag (ao.az (S:=p9 V H F) hb3);have k0:=one_cell jL.o.gf;have f0:=aj jL.o.gf 0;clear hb3;go_wp2;go_meet;have hf:=jL.o.Uy Fo.o (λj hj=>Wt.o j hj) (W':=w3.setCell (F,0) (xI 0)) rfl;exact(show _/\_ from⟨hf.1,uw.o.trans hf.2⟩)
  .have e1:((i:Int)==(fr:Int))=false:=by simp;omega
   go_wp2;go_meet;exact(show _/\_ from⟨ia.o,ao.refl _ _⟩)
 case rest=>
  have⟨wx,hwx⟩:=bY (wc);subst hwx;have gn:=ag hcut.o.1;have SB:=ag hcut.o.2;have HQ2:Hd (wx.heap[Q]? =some (cW l.au.ai (xL Rc (aT l i).ah.length Re))):=SB.o.at_ HQ.o (λh=>HQS.o _ h rfl);have QC:Hd (ab N wx (xL Rc (aT l i).ah.length Re) (aT l i).ah):=gO.o.ev ⟨SB.o.mono Wt.o,λj hj=> .inl hj⟩;have bg:Hd (aC w0 wx):=bq iW.o iW.o.size SB.o (λj hj=>HSW.o j hj);have qdx:Hd (Bd N wx):=λj hj=>Qde (ni.o j hj) SB.o.size;have uw:Hd (ao (p9 V H F) W wx):=q9.o.trans SB.o;clear hcut v0 r0;have v0:=one_cell gn.o.gv;have r0:=one_cell gn.o.gr;have f0:=one_cell gn.o.gf;have t0:=one_cell gn.o.gt;by_cases MV:fr<=i
  .have e1:(fr:Int)<=(i:Int):=by omega
   by_cases hit:i<te
   .have e2:(i:Int)<(te:Int):=by omega
    go_upto_if 29 with fail;go_cut [](λwy=>Hd (Eu l fr te ay vs N V R H F T L fv cv i W wy));case first=>
     have⟨x,hx⟩:=eG l.aw i (by omega);have⟨b,off,cap',hcv,hbl,hcells⟩:=om.o x hx;have⟨us,ha,hn',hc',hh1,hh2,hh3⟩:=gn.o.gh;have Qg:=HCS.o MV;have hv0:bA (aT l i).ah ay us:=by rw[Qg.cL];exact hh3.1
     have HUC:=ag hh3;have HCH:=ag Qg;have HXX:=ag hx;have J4:=ag (HVX.o x wx.drew us _ hx bg.o.drew (qdx.o.ae (w':=wx.drew) dS.drew) (QC.o.ev ((Ev.refl _ _).drew)) (hh2.ev ((Ev.refl _ _).drew)) hv0);have hHb:=ag hh1;have h0:=one_cell hh1;have k0:=aj hh1 0;have⟨q0,q1⟩:=ak HQ2.o;have hKS:∀W',ao (λj=>j=H\/j=F) wx W'->(W'.cell? (Q,0)=some (xS l.au.ai)/\W'.cell? (Q,1)=some (xL Rc (aT l i).ah.length Re)/\W'.cell? (L,2)=some cv/\W'.cell? (V,0)=some (xI i)/\W'.cell? (b,off+i*8)=some (xI x.an)/\W'.cell? (b,off+i*8+1)=some (xS x.field)/\W'.cell? (b,off+i*8+2)=some (xS x.ai)/\W'.cell? (b,off+i*8+3)=some (xS x.more)/\W'.cell? (b,off+i*8+4)=some (xI x.type.an)/\W'.cell? (b,off+i*8+5)=some (xI x.type.of)/\W'.cell? (b,off+i*8+6)=some (xS x.cX)/\W'.cell? (b,off+i*8+7)=some (xS x.bZ)):=λW' ho=>by
      have⟨y0,y1⟩:=ak (ho.at_ HQ2.o (λh=>h.elim (λh=>HQS.o H (.inr (.inl rfl)) h.symm) (λh=>HQS.o F (.inr (.inr rfl)) h.symm)));have y2:=(aO (ho.at_ gn.o.gl (λh=>h.elim (λh=>Fo.o.hl h.symm) (λh=>Fo.o.fl h.symm)))).2.2;have y3:=one_cell (ho.at_ gn.o.gv (λh=>h.elim (λh=>Fo.o.vh h) (λh=>Fo.o.vf h)));have⟨z0,z1,z2,z3,z4,z5,z6,z7⟩:=hcells wx bg.o;have hbx:b<wx:=Qde hbl bg.o.size;have hne:¬(b=H\/b=F):=λh=>h.elim (λh=>by have:=HSW.o H (.inr (.inl rfl));omega) (λh=>by have:=HSW.o F (.inr (.inr rfl));omega);have g:∀o,W'.cell? ⟨b,o,none⟩=wx.cell? ⟨b,o,none⟩:=λo=>ho.cell (p:=⟨b,o,none⟩) hbx hne;exact⟨y0,y1,y2,y3,(g _).trans z0,(g _).trans z1,(g _).trans z2,(g _).trans z3,(g _).trans z4,(g _).trans z5,(g _).trans z6,(g _).trans z7⟩
     have HKS:=ag hKS;have HJ:Hd (ao (λj=>j=H\/j=F) wx wx):=ao.refl _ _;have⟨y0,y1,y2,y3,z0,z1,z2,z3,z4,z5,z6,z7⟩:=hKS wx HJ.o;have i0:(0:Int)<=(i:Int):=Qba _;have i1:(i:Int)<(l.aw.length:Int):=by omega
     subst hcv;have kf:=aj gn.o.gf 0;have nHF:=Fo.o.hf;have nFH:F≠H:=λh=>nHF h.symm;clear hcells hh1 hh2 hh3 hv0 Qg hx q0 q1 hKS hbl;go_upto_region 4 with fail;clear HKS HJ;go_region_law(first
      |(go_simp;go_at_call 281;refine J4.o.mono ?_;rintro en w4⟨_,rfl,⟨us2,uv,rfl,XR,hs4⟩,eA⟩;obtain⟨ua,uc,rfl,_⟩:=hs4.aq;have ek:Hd (aC wx w4):=(Qbg wx wx).drew.trans eA;have fI:Hd (ao (λj=>j=H\/j=F) wx w4):=ao.az ek.o;have oq:=ag (gn.o.ae ek.o);have HL4:=ag hs4;have Rf:=ag XR;have h4:=one_cell ((ek.o.block H (Qaa.1 hHb.o).1).trans hHb.o);have k4:=aj ((ek.o.block H (Qaa.1 hHb.o).1).trans hHb.o) 0;have f4:=one_cell oq.o.gf;have g4:=aj oq.o.gf 0;clear XR hs4 eA));all_goals(go_wp2;go_meet)
     all_goals
      have qdy:j5 (aT l fr) (eS l fr te (i+1)) ay vs us2:=by rw[Et MV hit HXX.o];exact j5.snoc HCH.o HUC.o Rf.o
      have⟨⟨W9,e9,s9,o9⟩,g9⟩:=oq.o.hold Fo.o Wt.o HL4.o qdy rfl;exact(show Eu _ _ _ _ _ _ _ _ _ _ _ _ _ _ _ _ _ from⟨⟨W9,e9,s9,(uw.o.trans (ao.az ek.o)).trans o9⟩,g9⟩)
    case rest=>
     have⟨wy,hwy⟩:=bY (wc);subst hwy;have HM:=ag hcut.o;have⟨⟨W5,h5,hs5,ho5⟩,gv,gf,gt⟩:=hcut.o;have ot:=ag hs5;have Cm:=ag ho5;have qu:=ag h5;have v5:=one_cell gv;have fv5:=aj gv 0;clear hcut h5 hs5 ho5 gf gt gv v0 r0 f0 t0;go_upto_region 6 with fail;have hW5:=qu.o;rw[show((i+1:Nat):Int)=(i:Int)+1 by omega]at hW5;rw[<-hW5];clear hW5 qu v5 fv5 HM;have v6:=one_cell ot.o.gv;have f6:=one_cell ot.o.gf;have t6:=one_cell ot.o.gt;rw[show((i+1:Nat):Int)=(i:Int)+1 by omega]at v6;by_cases hle:i+1<=te
     .have e6:(i:Int)+1<=(te:Int):=by omega
      go_wp2_with fail;all_goals
       go_ret;exact⟨by simp[hle],ot.o,Cm.o⟩
     .have e6:(te:Int)<(i:Int)+1:=by omega
      go_wp2_with fail;all_goals
       go_ret;exact⟨by simp[hle],ot.o,Cm.o⟩
   .have e2:(te:Int)<=(i:Int):=by omega
    go_upto_if 29 with fail;go_cut [](λwy=>Hd (Eu l fr te ay vs N V R H F T L fv cv i W wy));case first=>
     go_wp2;go_meet;exact(gn.o.Tj Fo.o Wt.o uw.o (po (by omega)))
    case rest=>
     have⟨wy,hwy⟩:=bY (wc);subst hwy;have HM:=ag hcut.o;have⟨⟨W5,h5,hs5,ho5⟩,gv,gf,gt⟩:=hcut.o;have ot:=ag hs5;have Cm:=ag ho5;have qu:=ag h5;have v5:=one_cell gv;have fv5:=aj gv 0;clear hcut h5 hs5 ho5 gf gt gv v0 r0 f0 t0;go_upto_region 6 with fail;have hW5:=qu.o;rw[show((i+1:Nat):Int)=(i:Int)+1 by omega]at hW5;rw[<-hW5];clear hW5 qu v5 fv5 HM;have v6:=one_cell ot.o.gv;have f6:=one_cell ot.o.gf;have t6:=one_cell ot.o.gt;rw[show((i+1:Nat):Int)=(i:Int)+1 by omega]at v6;by_cases hle:i+1<=te
     .have e6:(i:Int)+1<=(te:Int):=by omega
      go_wp2_with fail;all_goals
       go_ret;exact⟨by simp[hle],ot.o,Cm.o⟩
     .have e6:(te:Int)<(i:Int)+1:=by omega
      go_wp2_with fail;all_goals first
       |(exfalso;omega)
       |(go_ret;exact⟨by simp[hle],ot.o,Cm.o⟩)
  .have e1:(i:Int)<(fr:Int):=by omega
   go_upto_if 29 with fail;go_cut [](λwy=>Hd (Eu l fr te ay vs N V R H F T L fv cv i W wy));case first=>
    go_wp2;go_meet;exact(gn.o.Tj Fo.o Wt.o uw.o (po (by omega)))
   case rest=>
    have⟨wy,hwy⟩:=bY (wc);subst hwy;have HM:=ag hcut.o;have⟨⟨W5,h5,hs5,ho5⟩,gv,gf,gt⟩:=hcut.o;have ot:=ag hs5;have Cm:=ag ho5;have qu:=ag h5;have v5:=one_cell gv;have fv5:=aj gv 0;clear hcut h5 hs5 ho5 gf gt gv v0 r0 f0 t0;go_upto_region 6 with fail;have hW5:=qu.o;rw[show((i+1:Nat):Int)=(i:Int)+1 by omega]at hW5;rw[<-hW5];clear hW5 qu v5 fv5 HM;have v6:=one_cell ot.o.gv;have f6:=one_cell ot.o.gf;have t6:=one_cell ot.o.gt;rw[show((i+1:Nat):Int)=(i:Int)+1 by omega]at v6;by_cases hle:i+1<=te
    .have e6:(i:Int)+1<=(te:Int):=by omega
     go_wp2_with fail;all_goals
      go_ret;exact⟨by simp[hle],ot.o,Cm.o⟩
    .have e6:(te:Int)<(i:Int)+1:=by omega
     go_wp2_with fail;all_goals
      go_ret;exact⟨by simp[hle],ot.o,Cm.o⟩
def fnO(V R H F T L:Nat):Obj:=xK #[.func (.func 280) #[] #[xP V,xP R,xP H,xP F,xP T,xP L]] 131
structure Pc(l:aQ)(fr te:Nat)(ay:Int)(vs:List aJ)(N:aV)(V R H F T L K:Nat)(fv cv:aA)(w:ax)(i:Nat)(W:ax):Prop where
 st:kL l fr te ay vs N V R H F T L fv cv i W
 fn:W.heap[K]? =some (fnO V R H F T L)
 ae:aC w W
theorem Pc.only {l:aQ}{V H F T L:Nat}{B:ax}{S:aV}(h:Pc l fr te ay vs N V R H F T L K fv cv w i A)(ho:ao S A B)(hS:∀j,S j->(j≠V/\j≠R/\j≠H/\j≠F/\j≠T/\j≠L)/\j≠K/\w.heap.size<=j)(hN:∀j,S j->N j):Pc l fr te ay vs N V R H F T L K fv cv w i B:=
 ⟨h.st.only ho (λj hj=>(hS j hj).1) hN,ho.at_ h.fn (λh=>(hS _ h).2.1 rfl),bq h.ae h.ae.size ho (λj hj=>(hS j hj).2.2)⟩
def Pd(l:aQ)(hl:ee l)(fr te:Nat)(Q0:fr<=te)(hte:te<=l.aw.length)(ay:Int)(hm:ay<=100000)(vs:List aJ)(hv:bA (aT l fr).ah ay vs)(M:Nat->Prop)(w:World)(hM:Bd M w)(hG:Gd w)(fv cv vv:Value)(hfs:ab M w fv l.au.ah)(hcs:ab M w cv l.aw)(hvs:ab M w vv vs):
 xC 247 #[.agg #[.string l.au.ai,fv,cv], .int .i64 fr, .int .i64 te,vv] w (cm w λv w'=>∃us uv,v= .tuple #[uv, .int .i64 0]/\j5 (aT l fr) (eS l fr te te) ay vs us/\ab M w' uv us):=by
 have h8:vs.length<=12:=by
  have:=((dU _).1 (hl.kA fr).right).2.1;rw[hv.1];omega
 have lF:=ag hM;have MO:Hd (∀W,aC w W->_):=(show∀W,_->_ fromλW hb=>BV hv h8 M W vv (hM.ae hb) (hvs.ae hb));have yO:Hd (∀(S:Nat->Prop)p W,aC w W->¬S p->(∀i,S i->w.heap.size<=i/\i<W.heap.size)->W.heap[p]? =some (cP l.au.ai fv cv)->KZ prog 246 #[.pointer (p,0)] W S 1 0 (ph l (qF M S W)) (λi=>i=l.aw.length+1)):=(show∀(S:Nat->Prop)p W,_->_->_->_->_ fromλS p W h1 h2 h3 h4=>nK l hl M S p w W hM h1 hG.tb fv cv hfs hcs h4 h2 h3);have yM:Hd (∀(N:Nat->Prop)(i V R H F T L:Nat)fvc W,i<=te->Es V R H F T L->(∀j,p9 V H F j->N j)->(∀j,p9 V H F j->w.heap.size<=j)->Bd N W->aC w W->ab N W fvc (aT l i).ah->kL l fr te ay vs N V R H F T L fv cv i W->_):=(show∀(N:Nat->Prop)(i V R H F T L:Nat)fvc W,_->_->_->_->_->_->_->_->_ fromλN i V R H F T L fvc W h1 h2 h3 h4 h5 h6 h7 h8=>LO l hl fr te i Q0 hte h1 ay hm vs M N V R H F T L fv cv fvc h2 w W h3 h4 h5 h6 hG hcs h7 h8);have MY:Hd (∀us,us.map (cr 3)=vs.map (cr 3)->bA (aT l fr).ah ay us->j5 (aT l fr) (eS l fr te 0) ay vs us):=(show∀us:List aJ,_->_->_ fromλus h1 h2=>by
  rw[AG (Qbf _)];exact⟨h2,h1⟩);have HV:=ag hv;have eg:∀args w,(callFunc 280 args).run prog w= .ok (.enter 280 args) w:=enters_of func280 (by kernel_rfl) rfl;have Cs:∀(fn:Fn)(au cap:Array Value)(w:World),(Instr.makeFunc fn au cap).run prog w= .ok (.func fn au cap) w:=λ_ _ _ _=>rfl;obtain⟨fa,fc,rfl,_⟩:=hfs.aq;obtain⟨ca,cc,rfl,_⟩:=hcs.aq;obtain⟨va,vc,rfl,_⟩:=hvs.aq;have cI:=ag (Bx.gj w (cP l.au.ai (.slice fa l.au.ah.length fc) (.slice ca l.aw.length cc)) (mi fr) (mi te));clear hfs hcs hvs hM hG hv hl;refine callsIn_wide.1 (callsIn_of_wp_marks (n:=0) func247 rfl trivial (wpIn_wide.2 ?_) rfl);simp only[ntmps247,List.size_toArray,Qcc,Qcd,Nat.reduceAdd,Nat.reduceSub,Array.replicate_succ,Array.replicate_zero,List.push_toArray,List.append_toArray,List.nil_append,List.cons_append];go_wp2_with fail;refine(MO.o _ cI.o.1).mono ?_;rintro e w1⟨_,rfl,hs1,hb1⟩;obtain⟨ua,uc,rfl,_⟩:=hs1.aq;have bz:=ag (cI.o.ae hb1);have qL:=ag hs1;have hz1:=bz.o.bQ;simp only[Qcc,Qcd]at hz1;clear hb1 hs1;go_upto_region 3 with fail;obtain⟨q,hq⟩:∃q,w1.heap.size=q:=⟨_,rfl⟩;obtain⟨W3,hW3⟩:∃W3:World,W3=(((w1.alloc (mi 0)).alloc (Fz (.slice ua vs.length uc))).alloc (zp 0)).alloc (fnO q [w] (q+1) (q+1+1) [w,w] w):=⟨_,rfl⟩;have hX:=Bx.KE w1 (mi 0) (Fz (.slice ua vs.length uc)) (zp 0) (fnO q [w] (q+1) (q+1+1) [w,w] w);rw[<-hW3]at hX;have ky:=ag hX;have bV:=ag (bz.o.ae hX.1);have yJ:W3=q+4:=by rw[hW3,<-hq];simp
 unfold mi Fz zp fnO at hW3;rw[hq,<-hW3];have HQE:=ag hq;clear hW3 hX;have⟨l0,l1,l2⟩:=aO (bV.o.bO rfl);go_wp2_with fail;refine(pg _ _ _ _).mono ?_;rintro e w2⟨rfl,rfl⟩;go_wp2_with fail;obtain⟨W2,hW2⟩:∃W2:World,W2=W3.alloc (cP l.au.ai (.slice fa l.au.ah.length fc) (.slice ca l.aw.length cc)):=⟨_,rfl⟩;have qY:Hd (W2.heap[W3.heap.size]? =some (cP l.au.ai (.slice fa l.au.ah.length fc) (.slice ca l.aw.length cc))):=(show _=_ by rw[hW2];exact Qbh W3 _);have Wv:aC W3 W2:=by rw[hW2];exact bU
 have bg:=ag (bV.o.ae Wv);have eZ:=ag (ky.o.ae Wv);have hz2:W2=q+5:=by rw[hW2];simp[yJ]
 rw[<-hW2];rw[yJ]at qY;clear hW2 Wv l0 l1 l2;have hNS:∀j,p9 q (q+1) (q+1+1) j->w.heap.size<=j/\j<W2.heap.size:=λj hj=>by rcases hj with hj|hj|hj<;>omega
 have Qi:=ag hNS;have SM:=ag (yO.o (p9 q (q+1) (q+1+1)) (q+4) W2 bg.o.1 (λh=>by rcases h with h|h|h<;>omega) hNS qY.o);have Fo:Hd (Es q [w] (q+1) (q+1+1) [w,w] w):=(show Es _ _ _ _ _ _ from⟨by omega,by omega,by omega,by omega,by omega,by omega,by omega,by omega,by omega,by omega,by omega,by omega⟩);have ZG:Hd (Pc l fr te ay vs (qF M (p9 q (q+1) (q+1+1)) W2) q [w] (q+1) (q+1+1) [w,w] w (q+1+1+1) (.slice fa l.au.ah.length fc) (.slice ca l.aw.length cc) w 0 W2):=(show Pc _ _ _ _ _ _ _ _ _ _ _ _ _ _ _ _ _ _ from by
  have e0:=eZ.o.bO rfl;have e1:=eZ.o.cg rfl;have e2:=eZ.o.fB rfl;have e3:=eZ.o.Bv rfl;(try unfold dk at e0);rw[HQE.o]at e0 e1 e2 e3;exact⟨⟨e0,bg.o.cg rfl,e2,bg.o.fB rfl,bg.o.bO rfl,vs,ua,_,uc,e1,qL.o.ev ⟨ao.az (eZ.o.1.mono bT),λj hj=>by
   rcases hj with hj|hj|hj
   .exact .inl hj
   .exact .inr (by have:=HQE.o;rcases hj with hj|hj|hj<;>omega)
   .exact .inr (by have:=hj.1;have:=HQE.o;omega)⟩,MY.o vs rfl HV.o⟩,e3,bg.o.1⟩);clear hNS;refine wpIn_wide.1 (nD rfl (enters_of func246 (by kernel_rfl) rfl) (p9 q (q+1) (q+1+1)) 1 0 (ph l (qF M (p9 q (q+1) (q+1+1)) W2)) (λi=>i=l.aw.length+1) SM.o (λi args i' W h=>pj h) (λi hi=> .inl (Qi.o i hi).2)
  (λi W=>i<=te/\Pc l fr te ay vs (qF M (p9 q (q+1) (q+1+1)) W2) q [w] (q+1) (q+1+1) [w,w] w (q+1+1+1) (.slice fa l.au.ah.length fc) (.slice ca l.aw.length cc) w i W)
  (λc W=>c= .exit 0/\Pc l fr te ay vs (qF M (p9 q (q+1) (q+1+1)) W2) q [w] (q+1) (q+1+1) [w,w] w (q+1+1+1) (.slice fa l.au.ah.length fc) (.slice ca l.aw.length cc) w (te+1) W)
  (λi A B h ho=>⟨h.1,h.2.only ho (λj hj=>by have:=hj.1;exact⟨⟨by omega,by omega,by omega,by omega,by omega,by omega⟩,by omega,by omega⟩) (λj hj=> .inr (.inr hj))⟩)
  (λc A B h ho=>⟨h.1,h.2.only ho (λj hj=>by have:=hj.1;exact⟨⟨by omega,by omega,by omega,by omega,by omega,by omega⟩,by omega,by omega⟩) (λj hj=> .inr (.inr hj))⟩) ⟨Qbf _,ZG.o⟩ ?hround ?hdone ?hstop);case hdone=>
  intro i W hE hI hD;exfalso;have:=hI.1;omega
 case hround=>
  intro k i args i' W hI hTl hsz;obtain⟨rfl,hi,jK,rfl,hsl⟩:=hTl;obtain⟨hiv,hca⟩:=hI;obtain⟨ya,yc,rfl,_⟩:=hsl.aq;have HI:=ag hca;have gO:=ag hsl;clear hca hsl;gi_wp2_with(rw[Oper.semAt_eq _ _ _ (λc h=>by cases h)];go_simp;try go_bits);refine⟨(ao.refl _ W).alloc _,λW5 ho5 hzW=> ?_⟩;have qu:Hd (ao (λj=>j=[W2]) W W5):=(show ao _ _ _ from((ao.refl _ W).alloc _).trans ho5);have T7:Hd (Pc l fr te ay vs (qF M (p9 q (q+1) (q+1+1)) W2) q [w] (q+1) (q+1+1) [w,w] w (q+1+1+1) (.slice fa l.au.ah.length fc) (.slice ca l.aw.length cc) w i W5):=(show Pc _ _ _ _ _ _ _ _ _ _ _ _ _ _ _ _ _ _ from HI.o.only qu.o (λj hj=>by have:j=[W2]:=hj;exact⟨⟨by omega,by omega,by omega,by omega,by omega,by omega⟩,by omega,by omega⟩) (λj hj=> .inr (.inr (by have:j=[W2]:=hj;exact⟨by omega,by omega⟩))));have Ww:Hd (ab (qF M (p9 q (q+1) (q+1+1)) W2) W5 (.slice ya (aT l i).ah.length yc) (aT l i).ah):=(show ab _ _ _ _ from gO.o.ev ⟨qu.o.mono λj hj=> .inr (.inr (by have:j=[W2]:=hj;exact⟨by omega,by omega⟩)),λj hj=> .inl hj⟩);have HP5:=ag (ho5.at_ (Qbh W (cW l.au.ai (.slice ya (aT l i).ah.length yc))) (by show¬W.heap.size=[W2];omega));have hz5:W2.heap.size+3<=W5:=by rw[hzW];simp;omega
  have ni:Hd (Bd (qF M (p9 q (q+1) (q+1+1)) W2) W5):=(show Bd _ _ fromλj hj=>by
   rcases hj with hj|hj|hj
   .have:=lF.o j hj;omega
   .have:=(Qi.o j hj).2;omega
   .have:=hj.2;omega);have bI:=ag (yM.o _ i _ _ _ _ _ _ _ W5 hiv Fo.o (λj hj=> .inr (.inl hj)) (λj hj=>(Qi.o j hj).1) ni.o T7.o.ae Ww.o T7.o.st);have⟨p0,p1⟩:=ak HP5.o;have s0:=one_cell T7.o.fn;clear ho5;gi_wp2_with(rw[Oper.semAt_eq _ _ _ (λc h=>by cases h)];go_simp;try go_bits);refine⟨trivial,rfl,(CallsIn.inRound k (callsIn_wide.2 bI.o)).mono ?_⟩;rintro e w6⟨rfl,hst,T8⟩;have QY:=ag T8;have HI6:Hd (Pc l fr te ay vs (qF M (p9 q (q+1) (q+1+1)) W2) q [w] (q+1) (q+1+1) [w,w] w (q+1+1+1) (.slice fa l.au.ah.length fc) (.slice ca l.aw.length cc) w (i+1) w6):=(show Pc _ _ _ _ _ _ _ _ _ _ _ _ _ _ _ _ _ _ from⟨hst,T8.at_ T7.o.fn (λh=>by rcases h with h|h|h<;>omega),bq T7.o.ae T7.o.ae.size T8 (λj hj=>(Qi.o j hj).1)⟩);clear hst T8 s0 p0 p1;by_cases hle:i+1<=te
  .gi_wp2_with(rw[Oper.semAt_eq _ _ _ (λc h=>by cases h)];go_simp;try go_bits);exact⟨QY.o,hle,HI6.o⟩
  .obtain rfl:i=te:=by omega
   gi_wp2_with(rw[Oper.semAt_eq _ _ _ (λc h=>by cases h)];go_simp;try go_bits);exact⟨QY.o,rfl,HI6.o⟩
 case hstop=>
  intro c W hX hD;obtain⟨rfl,hca⟩:=hX;have HI:=ag hca;have HD:=ag hD;have⟨us,a,n,cap,h1,h2,h3⟩:=hca.st.gh;have f0:=one_cell HI.o.st.gf;have h0:=one_cell h1;clear hca hD;refine wpIn_wide.2 ?_;dsimp only;go_wp2_with fail;obtain⟨W4,hW4⟩:∃W4:World,W4=W.putObj W2 (.deferred none):=⟨_,rfl⟩;have o4:ao (λj=>j=W2) W W4:=by rw[hW4];exact(ao.refl (λj=>j=W2) W).putObj (.inl rfl) _
  refine⟨by simp, .inl ⟨_,_,rfl,run_takeDeferred HD.o,?_⟩⟩;rw[<-hW4];rw[po (.inr bT)]at h3;refine⟨.tuple #[.slice a n cap, .int .i64 0],by simp[results,results247,go_sem],_,rfl,⟨us,_,rfl,h3,(h2.ev ⟨o4.mono λj hj=> .inr (.inr (by have:j=W2:=hj;exact⟨by omega,by omega⟩)),λj hj=> .inl hj⟩).ev (Ev.dL W4 λj hj=> .inl hj)⟩,?_⟩;exact bq HI.o.ae HI.o.ae.size o4 (λj hj=>by have:j=W2:=hj;have:=bg.o.1.size;omega)
def LP(ls:List aQ)(h:dF ls)(k:Nat)(l:aQ)(hk:ls[k]? =some l)(fr:Nat)(Q0:fr<=l.aw.length)(ay:Int)(hm:ay<=100000)(vs:List aJ)(hv:bA (aT l fr).ah ay vs)(M:aV)(w:ax)(hM:Bd M w)(hG:Gd w)(sv vv:aA)(hs:ab M w sv ls)(hvs:ab M w vv vs):
 xG 185 #[.agg #[sv],k,fr,l.aw.length,vv] w λv w'=>∃us uv,v= .tuple #[uv,xI 0]/\j5 (aT l fr) (l.aw.drop fr) ay vs us/\ab M w' uv us:=by
 have sT:=h.aK l (Qaf hk);have hcut:eS l fr l.aw.length l.aw.length=l.aw.drop fr:=by
  unfold eS;rw[Nat.min_self,Qah (by rw[List.length_drop];exact bT)]
 have HC:=gQ (w:=w) (λW hb=>ye ls h k l hk M W (hM.ae hb) (hG.tb.ae hb) sv (hs.ae hb));have J7:Hd (∀W fv cv,aC w W->ab M W fv l.au.ah->ab M W cv l.aw->_):=λW fv cv hb h1 h2=>Pd l sT fr l.aw.length Q0 bT ay hm vs hv M W (hM.ae hb) (hG.ae hb) fv cv vv h1 h2 (hvs.ae hb);rw[hcut]at J7;obtain⟨a,cj,rfl,cY,hmx,_⟩:=hs.aq;obtain⟨va,vc,rfl,_⟩:=hvs.aq;have cI:=ag (Bx.eI w (eW (xL a ls.length cj)));have i0:(0:Int)<=(fr:Int):=Qba _;have i1:(fr:Int)<=(l.aw.length:Int):=by omega
 go_enter func185,ntmps185;go_wp2_with fail;refine(HC.o _ cI.o.1).mono ?_;rintro e w1⟨⟨fa,fc,ca,cc,rfl,hf1,hc1⟩,hb1⟩;have bz:=ag (cI.o.ae hb1);have HCB:Hd (∀o,_):=λo=>J7.o (w1.alloc o) _ _ (bz.o.alloc o).1 (hf1.ae (hb1.alloc hb1.size o)) (hc1.ae (hb1.alloc hb1.size o));go_wp2_with fail;refine(HCB.o _).mono ?_;rintro e w2⟨_,rfl,⟨us,uv,rfl,QD,hsl⟩,bE⟩;obtain⟨ya,yc,rfl,_⟩:=hsl.aq;have bg:=ag ((bz.o.alloc _).ae bE);have S6:=ag QD;have gO:=ag hsl;go_wp2;go_ret2;exact⟨_,rfl,⟨us,_,rfl,S6.o,gO.o⟩,bg.o.1⟩
def AH(h:dF ls){l:aQ}(hk:ls[k]? =some l):dF [l]:=by
 have hl:=h.aK l (Qaf hk);refine⟨by simp,?_,?_⟩;all_goals first
  |(intro x hx;rcases Qea.1 hx with rfl;exact hl)
  |(intro i x hi;match i,hi with
     |0,hi=>simp at hi;subst hi;simp[dx,cq,idxOf]
     |i+1,hi=>simp at hi)
def LQ {l:aQ}(hk:ls[k]? =some l):(ls.drop k).take 1=[l]:=by
 rw[List.drop_eq_getElem?_toList_append,hk];simp
def Ew(ls:List aQ)(k:Nat)(l:aQ)(hk:ls[k]? =some l)(h8:ls.length<=8)(M:aV)(w:ax)(sv:aA)(hs:ab M w sv ls):
 xG 186 #[.agg #[sv],k] w λv w'=>∃u,v= .agg #[u]/\ab M w' u [l]:=by
 have bH:=(Qad.1 hk).1;obtain⟨a,cj,rfl,cY,hmx,_⟩:=hs.aq;have⟨b,off,cap,fa,fc,ca,cc,hv,hbl,_,_,_,_⟩:=eL hs hk;obtain⟨rfl,rfl⟩:=iY hv;have s2:=(hs.from_ rfl (k:=k) (by omega)).upto (by simp) (k:=1) (by omega);rw[LQ hk,if_neg (by omega)]at s2;have gn:=ag (show ab M w (xL (b,off+k*3) 1 (cj-k)) [l]by
  have e:(⟨b,off,none⟩:Addr).add (k*3)=⟨b,off+k*3,none⟩:=by
   unfold Addr.add;by_cases hz:k=0
   .subst hz;simp
   .simp[show¬k*3=0 from by omega]
  simpa [e,show aD.size aQ=3 from rfl]using s2);have cI:=ag (Bx.du w (eW (xL (b,off) ls.length cj)) (eW ()));have i6:IntKind.i64.wrap ((k:Int)+1)=(k:Int)+1:=Qbe _ (by omega);have i0:(0:Int)<=(k:Int):=Qba _;have i1:(k:Int)+1<=(cj:Int):=by omega
 have i2:¬cj=k:=by omega
 have i3:(k:Int)<=(k:Int)+1:=by omega
 have i4:((k:Int)+1).toNat=k+1:=by omega
 have i5:k+1-k=1:=by omega
 have i7:k+1<=cj:=by omega
 have c0:=one_cell (cI.o.cg rfl);have f0:=aj (cI.o.cg rfl) 0;have d0:=one_cell (cI.o.bO rfl);go_enter func186,ntmps186;go_wp2_with fail;refine Qae (v:= .agg #[xL (b,off+k*3) 1 (cj-k)]) (by simp[results,results186,go_sem,c0]) rfl ⟨_,rfl,⟨_,rfl,?_⟩,?_⟩
 .exact gn.o.ae (Bx.du w (eW _) (eW _)).1
 .exact(Bx.du w (eW _) (eW _)).1
def Hy(ls:List aQ)(h:dF ls)(k:Nat)(l:aQ)(hk:ls[k]? =some l)(x:bF)(v:Nat)(ay:Int)(hm:ay<=100000)(hc:x.cL=k)(hvv:x.cQ=v)(FL:v<=l.aw.length)(hx:GC ay x)(hv:bA (aT l v).ah ay x.aZ)(M:aV)(w:ax)(hM:Bd M w)(hG:Gd w)(sv vv:aA)(hs:ab M w sv ls)(hvs:ab M w vv x.aZ):
 xG 126 #[.agg #[sv], .agg #[x.id,x.cL,x.cQ,vv]] w λr w'=>∃us uv,r= .tuple #[.agg #[x.id,x.cL,l.aw.length,uv],xI 0]/\j5 (aT l v) (l.aw.drop v) ay x.aZ us/\ab M w' uv us:=by
 have sT:=h.aK l (Qaf hk);have h1:=AH h hk;have HL:=gQ (w:=w) (λW hb=>Er ls h k l hk M W (hM.ae hb) (hG.tb.ae hb) sv (hs.ae hb));have VX:=gQ (w:=w) (λW hb=>Dp x ay hm hx M W (hM.ae hb) vv (hvs.ae hb) (hG.tb.ae hb));have HA:=gQ (w:=w) (λW hb=>Ew ls k l hk (by have:=h.len;omega) (dX M w 3) W sv (hs.ev (dj hb)));have J7:Hd (∀W u,aC w W->w.heap.size+3<=W->ab (dX M w 3) W u [l]->_):=λW u hb h3 hu=>LP [l] h1 0 l rfl v FL ay hm x.aZ hv (dX M w 3) W (dt hM h3) (hG.ae hb) u vv hu (hvs.ev (dj hb));obtain⟨a,cj,rfl,cY,hmx,_⟩:=hs.aq;obtain⟨va,vc,rfl,_⟩:=hvs.aq;obtain⟨xi,xc,xv,xs⟩:=x;dsimp only at*;subst hc;subst hvv;have cI:=ag (Bx.gj w (eW (xL a ls.length cj)) (eh ⟨xi,(k:Int),(v:Int),xs⟩ (xL va xs.length vc)) (eh ⟨0,0,0,[]⟩ ()));have i0:(0:Int)<=(v:Int):=Qba _;have i1:(v:Int)<=(l.aw.length:Int):=by omega
 have c0:=one_cell (cI.o.bO rfl);have⟨o0,o1,o2,o3⟩:=af (cI.o.cg rfl);go_enter func126,ntmps126;go_wp2_with fail;refine cC (HL.o _ cI.o.1) λw1 hb1=> ?_;have bz:=ag (cI.o.ae hb1);have c0:=one_cell (bz.o.bO rfl);have⟨o0,o1,o2,o3⟩:=af (bz.o.cg rfl);go_wp2_with fail;refine cC (VX.o _ bz.o.1) λw2 bE=> ?_;have bg:=ag (bz.o.ae bE);have c0:=one_cell (bg.o.bO rfl);have⟨o0,o1,o2,o3⟩:=af (bg.o.cg rfl);go_upto_region 6 with fail;have dD:Hd (∀W,aC w2 W->ou W w 0 (xL a ls.length cj)/\yY W w 1 k/\yY W w 2 v/\yY W w 3 (xL va xs.length vc)):=λW hb=>by
  have h:=bg.o.ae hb;have h4:=af (h.cg rfl);exact⟨one_cell (h.bO rfl),h4.2.1,h4.2.2.1,h4.2.2.2⟩
 have fZ:Hd (aC w w2):=bg.o.1;have yV:Hd (w.heap.size+3<=w2):=bg.o.bQ;have HJ:Hd (aC w2 w2):=dS;go_cut [8,7](λs8 s7 wx=>s7=xI 0/\Hd (aC w2 wx)/\Hd (∃us,j5 (aT l v) (l.aw.drop v) ay xs us/\ab (dX M w 3) wx s8 us));case first=>
  go_region_held3(λw'=>w'.cell? (w,0)=some (xL a ls.length cj)/\w'.cell? ([w],1)=some (xI k)/\w'.cell? ([w],2)=some (xI v)/\w'.cell? ([w],3)=some (xL va xs.length vc))
   (with_reducible first|exact dD.o _ rh.o|exact dD.o _ dP.o|exact dD.o _ dP.o.drew|exact dD.o _ HJ.o|exact dD.o _ HJ.o.drew)
   (first
     |(go_at_call 186;refine(HA.o _ (by with_reducible first|exact fZ.o.drew|exact fZ.o)).mono ?_;rintro e w3⟨_,rfl,⟨u,rfl,hu⟩,hb3⟩;obtain⟨a1,c1,rfl,_⟩:=hu.aq;have HU:=ag hu;have dP:Hd (aC w2 w3):=(by with_reducible first|exact ag (Hq hb3)|exact ag hb3);clear hb3 hu)
     |(go_at_call 185;refine(J7.o _ _ (fZ.o.trans (dP.o.mono fZ.o.size)) (Qcg yV.o dP.o.size) HU.o).mono ?_;rintro e w4⟨_,rfl,⟨us,uv,rfl,QD,hsl⟩,eA⟩;obtain⟨a2,c2,rfl,_⟩:=hsl.aq;have S6:=ag QD;have gO:=ag hsl;have rh:Hd (aC w2 w4):=dP.o.trans (eA.mono dP.o.size);clear eA QD hsl));all_goals(go_wp2;go_meet)
  all_goals exact⟨rfl,rh,ag ⟨_,S6.o,gO.o⟩⟩
 case rest=>
  obtain⟨rfl,HJ5,Fh⟩:=hcut;have iU:=ag (bg.o.ae HJ5.o);have⟨us,QD,hsl⟩:=Fh.o;obtain⟨a2,c2,rfl,_⟩:=hsl.aq;have S6:=ag QD;have gO:=ag hsl;have c0:=one_cell (iU.o.bO rfl);have⟨o0,o1,o2,o3⟩:=af (iU.o.cg rfl);have⟨r0,r1,r2,r3⟩:=af (iU.o.fB rfl);have⟨f0,f1,f2,f3⟩:=hZ (iU.o.fB rfl);go_wp2_with fail;refine Qae (v:= .tuple #[.agg #[xi,k,l.aw.length,xL a2 us.length c2],xI 0]) (by simp[results,results126,go_sem,r0,r1,r2,r3]) rfl ⟨_,rfl,⟨_,_,rfl,S6.o,?_⟩,?_⟩
  .exact gO.o.ev (((((eK _).setCell (.inl (.inr ⟨by simp;omega,by simp⟩)) _).setCell (.inl (.inr ⟨by simp;omega,by simp⟩)) _).setCell (.inl (.inr ⟨by simp;omega,by simp⟩)) _).setCell (.inl (.inr ⟨by simp;omega,by simp⟩)) _)
  .exact dd iU.o.1 (by omega)
abbrev Hz(p:Int×Int):aA:= .agg #[xI p.1,xI p.2]
def BY(e:Bool)(x:Int×Int)(w:ax):(Instr.checkKey e 10000 265 (Hz x)).run prog w= .ok () w:=by
 kernel_rfl
def YP(x y:Int×Int)(w:ax):(Op.equal 265 (Hz x) (Hz y)).run prog w= .ok (decide (x=y)) w:=by
 obtain⟨a,b⟩:=x;obtain⟨c,d⟩:=y;have p0:∀(x y:Int)(w:ax),(part 3 #[xI x,xI y] 0).run prog w= .ok (xI x) w:=λx y w=>by kernel_rfl
 have p1:∀(x y:Int)(w:ax),(part 3 #[xI x,xI y] 1).run prog w= .ok (xI y) w:=λx y w=>by kernel_rfl
 have pe:∀(x y:Int)(w:ax),(Op.equalIn 9999 3 (.int .i64 x) (.int .i64 y)).run prog w= .ok (x==y) w:=λx y w=>run_equalIn_int w 9998 _ _ _ x y underlying3;have h1:(Op.equal 265 (Hz (a,b)) (Hz (c,d))).run prog w= .ok ((a==c)&&(b==d)) w:=by
  show(Op.equalIn (9999+1) 265 (.agg #[a,b]) (.agg #[c,d])).run prog w=_;rw[run_equalIn_struct w 9999 265 #[.int .i64 a, .int .i64 b] #[.int .i64 c, .int .i64 d] (by simp[Program.fieldsOf,underlying265]) (by kernel_rfl)];simp only[Program.fieldsOf,underlying265,Op.eqFields,Sem.run_bind,p0,p1,pe,Result.andThen_ok];by_cases h:a=c<;>by_cases h2:b=d<;>simp[h,h2,Op.eqFields,p0,p1,pe]
 have h2:((a==c)&&(b==d))=decide ((a,b)=(c,d)):=by rw[Bool.eq_iff_iff];simp
 rw[h1,h2]
def sG:mf Hz prog 265:=LD Hz _ (λ_ _=>rfl) underlying265 YP
def row_one {l:aQ}(hg:bW W g (xK #[l.au.ai,fv,cv] t))(hM:¬M g)(h1:ab M W fv l.au.ah)(h2:ab M W cv l.aw)(hn:l.au.ai.size<=maxLen):ab M W (xL (g,0) 1 1) [l]:=by
 refine⟨[[xS l.au.ai,fv,cv]],⟨rfl,some ⟨g,0,none⟩,1,rfl,bT,by unfold maxLen;omega,λ_=>⟨g,0,rfl,hM,(Qaa.1 hg).1,λj u hu=> ?_⟩⟩,rfl,λi cs x hc hx=> ?_⟩
 .simp only[World.cell?,hg,Nat.zero_add];simpa using hu
 .match i,hc,hx with
  |0,hc,hx=>cases hc;cases hx;exact⟨fv,cv,rfl,h1,h2,hn⟩
  |i+1,hc,hx=>simp at hx
def M9(s1 s2:aA):aA:= .agg #[true,s1,s2]
def uU(b:Bool)(s1 s2:aA):Obj:=xK #[b,s1,s2] 209
def R6(c v:Int):Obj:=xK #[c,v] 265
def Pe(sv:aA)(b:Nat):Obj:=xK #[sv, .map (some b)] 207
def jV(l:aQ)(v:Nat):aQ:=⟨aT l v,[]⟩
structure jk(ls:List aQ)(M:aV)(p b:Nat)(sv:aA)(w:ax):Prop where
 cell:w.heap[p]? =some (Pe sv b)
 aK:ab M w sv ls
 mp:∃es clk,bP Hz w b es clk/\∀x val,bB es x=some val->∃(k v:Nat)(l:aQ)(a1 a2:fx)(n1 c1 n2 c2:Nat),x=((k:Int),(v:Int))/\ls[k]? =some l/\v<=l.aw.length/\val=M9 (xL a1 n1 c1) (xL a2 n2 c2)/\ab M w (xL a2 n2 c2) [eD l v]/\ab M w (xL a1 n1 c1) [jV l v]
theorem jk.ev(h:jk ls M p b sv w)(hv:Ev M w M' w')(hp:w'.heap[p]? =w.heap[p]?)(hb:w'.heap[b]? =w.heap[b]?):jk ls M' p b sv w':=by
 obtain⟨h1,h2,es,clk,h3,h4⟩:=h;refine⟨hp.trans h1,h2.ev hv,es,clk,(show w'.heap[b]? =_ from hb.trans h3),λx val hx=> ?_⟩;have⟨k,v,l,a1,a2,n1,c1,n2,c2,e1,e2,e3,e4,e6,e7⟩:=h4 x val hx;exact⟨k,v,l,a1,a2,n1,c1,n2,c2,e1,e2,e3,e4,e6.ev hv,e7.ev hv⟩
def BZ(ls:List aQ)(M:aV)(w:ax)(hM:Bd M w)(sv:aA)(hs:ab M w sv ls):
 xC 55 #[.agg #[sv]] w λe w'=>∃p b,e=xR (xP p)/\w.heap.size<=p/\w.heap.size<=b/\p≠b/\p<w'.heap.size/\b<w'.heap.size/\(∀N:aV,(∀i,N i->M i\/w.heap.size<=i)->jk ls N p b sv w')/\aC w w':=by
 obtain⟨a,cj,rfl,cY,hmx,_⟩:=hs.aq;have HS:=ag hs;have hmk:=λw=>eM 205 w;have c0:=one_cell ((Bx.eI w (eW (xL a ls.length cj))).bO rfl);clear hs;go_enter func55,ntmps55;go_wp2;go_ret;have hX:=Bx.gj w (eW (xL a ls.length cj)) (.map #[] 0) (Pe (xL a ls.length cj) [w]);refine⟨[w,w],w.heap.size+1,rfl,by omega,by omega,by omega,by simp,by simp,λN hN=>⟨hX.fB rfl,HS.o.ev ⟨ao.az hX.1,hN⟩,[],0,hX.cg rfl,λx val h=>by simp[bB]at h⟩,hX.1⟩
def Ex(M:aV)(w:ax)(T:Nat):Nat->Prop:=λi=>M i\/(w<=i/\i<T)
def Pf {T:Nat}(hM:Bd M w)(hb:aC w W)(hT:T<=W):Bd (Ex M w T) W:=λi hi=>by
 rcases hi with hi|hi
 .exact Qde (hM i hi) hb.size
 .omega
def tT(T:Nat)(hb:aC w W):Ev M w (Ex M w T) W:=⟨ao.az hb,λi hi=>by
 rcases hi with hi|hi
 .exact .inl hi
 .exact .inr hi.1⟩
def JL(ls:List aQ)(h:dF ls)(k:Nat)(l:aQ)(hk:ls[k]? =some l)(v:Nat)(hv:v<=l.aw.length)(M:aV)(w:ax)(hM:Bd M w)(hG:Gd w)(p b:Nat)(th:p≠b)(hMb:M b)(sv:aA)(hB:jk ls M p b sv w):
 xC 125 #[xP p,k,v] w λe w'=>(∃a1 n1 c1 s2,e=xR (M9 (xL a1 n1 c1) s2)/\ab M w' s2 [eD l v]/\ab M w' (xL a1 n1 c1) [jV l v])/\jk ls M p b sv w'/\ao (λi=>i=b) w w':=by
 have iW:=ag hB;obtain⟨hcell,hs,es,clk,MZ,hes⟩:=hB;have hp:=(Qaa.1 hcell).1;have T9:=ag (hM b hMb);have lF:=ag hM;have HP0:=ag hp;have dD:Hd (∀W,aC w W->bW W p (Pe sv b)/\bP Hz W b es clk):=λW hb=>⟨(hb.block _ hp).trans hcell,(hb.block _ (hM b hMb)).trans MZ⟩;have HES:=ag hes;have HS:=ag hs;have Q3:∀W val,aC w W->bB es ((k:Int),(v:Int))=some val->(Instr.lookup 205 (.map (some b)) (.agg #[.int .i64 k, .int .i64 v]) true).run prog W= .ok (.tuple #[val, .bool true]) W:=λW val hb hx=>bP.Eb Hz underlying205 sG BY (dD.o W hb).2 ((k:Int),(v:Int)) val hx;have hz:∀W,(zeroValue 209).run prog W= .ok (.agg #[false,(),()]) W:=λW=>by kernel_rfl
 have hl4:∀W,aC w W->bB es ((k:Int),(v:Int))=none->(Instr.lookup 205 (.map (some b)) (.agg #[.int .i64 k, .int .i64 v]) true).run prog W= .ok (.tuple #[.agg #[.bool false, .slice none 0 0, .slice none 0 0], .bool false]) W:=λW hb hx=>bP.YL Hz underlying205 sG BY (dD.o W hb).2 ((k:Int),(v:Int)) _ (hz W) hx;obtain⟨ob,Ke,Kf,Kg,X9,Ya,Yb,pM,hob,qao⟩:∃(ob:Bool)(Ke:fx)(Kf Kg:Nat)(X9:fx)(Ya Yb:Nat),(∀W,aC w W->(Instr.lookup 205 (.map (some b)) (.agg #[k,v]) true).run prog W= .ok (.tuple #[.agg #[ob,xL Ke Kf Kg,xL X9 Ya Yb],ob]) W)/\(ob=true->ab M w (xL X9 Ya Yb) [eD l v]/\ab M w (xL Ke Kf Kg) [jV l v])/\(ob=false->bB es ((k:Int),(v:Int))=none):=by
  cases hq:bB es ((k:Int),(v:Int))with
  |none=>exact⟨false,none,0,0,none,0,0,λW hb=>hl4 W hb hq,by simp,by simp⟩
  |some val=>
   have⟨k',v',l',a1,a2,n1,c1,n2,c2,e1,e2,e3,e4,e6,e7⟩:=hes _ _ hq;rw[Prod.mk.injEq,Int.natCast_inj,Int.natCast_inj]at e1;obtain⟨rfl,rfl⟩:=e1;obtain rfl:l=l':=by rw[hk]at e2;exact Option.some.inj e2
   subst e4;exact⟨true,a1,n1,c1,a2,n2,c2,λW hb=>Q3 W _ hb hq,λ_=>⟨e6,e7⟩,by simp⟩
 have⟨lb,off,lcap,fa,fc,ca,cc,hsv,hlbl,hf1,hc1,hnm,hcells⟩:=eL hs hk;have jq:=ag hf1;have yM:=ag hc1;have qW:=ag hnm;have zB:=ag hcells;have MO:=ag (hc1.from_ rfl (k:=v) hv);have XK:Hd (ee l):=h.aK l (Qaf hk);have uh:Hd (∀T W u,aC w W->T<=W.heap.size->w.heap.size<=T->ab (Ex M w T) W u [l]->_):=λT W u hb h2 h3 hu=>Hw [l] (AH h hk) 0 l rfl v hv (Ex M w T) W (Pf hM hb h2) (hG.tb.ae hb) u hu;have CJ:=ag pM;have Ua:=ag hob;have Wx:=ag qao;obtain⟨a,cj,rfl,cY,hmx,_⟩:=hs.aq;obtain⟨rfl,rfl⟩:=iY hsv;have hkl:=(Qad.1 hk).1;have i0:(0:Int)<=(k:Int):=Qba _;have i1:(k:Int)<(ls.length:Int):=by omega
 clear hsv hf1 hc1 hcells hnm;have cI:=ag (Bx.du w (uU false () ()) (R6 k v));clear Q3 hl4 hes hs hcell MZ pM hob qao;go_enter func125,ntmps125;go_upto_region 2 with fail;have⟨W,hW⟩:=bY ((w.alloc (uU false () ())).alloc (R6 k v));have bg:=ag (show Bx w [uU false () (),R6 k v] W by rw[hW];exact cI.o);unfold uU R6 at hW;rw[<-hW];clear hW;have hzW:=bg.o.bQ;have c1:=(ak (dD.o W bg.o.1).1).2;have c1':=λo=>(ak (dD.o (W.alloc o) (bg.o.alloc o).1).1).2;have⟨d0,d1⟩:=ak (bg.o.cg rfl);have d0':=λo=>(ak ((bg.o.alloc o).cg rfl)).1;have d1':=λo=>(ak ((bg.o.alloc o).cg rfl)).2;have l0:=CJ.o W bg.o.1;have l0':=λo=>CJ.o (W.alloc o) (bg.o.alloc o).1;have l1:=CJ.o W.drew bg.o.1.drew;have l1':=λo=>CJ.o (W.alloc o).drew (bg.o.alloc o).1.drew;have l2':=λo=>CJ.o (W.drew.alloc o) (bg.o.1.drew.alloc (Qcg bg.o.1.size bT) o);go_cut [8,9](λs8 s9 wx=>s8=xP W/\s9=xB ob/\Hd (aC W wx/\dk wx W (uU ob (xL Ke Kf Kg) (xL X9 Ya Yb))));case first=>
  go_region_law fail;all_goals(go_wp2;go_meet)
  all_goals refine⟨rfl,rfl,ag ⟨?_,?_⟩⟩
  all_goals first
   |exact bU.drew
   |exact(Qbg _ W).drew.alloc bT _
   |exact Qbh W _
 case rest=>
  obtain⟨rfl,rfl,HX⟩:=hcut;clear c1 c1' d0 d1 d0' d1' l0 l0' l1 l1' l2';have bV:=ag (bg.o.ae HX.o.1);have⟨x0,x1,x2⟩:=aO HX.o.2;have⟨r0,r1,r2⟩:=aO (bV.o.bO rfl);have⟨f0,f1⟩:=mu (bV.o.bO rfl);have f2:=aj (bV.o.bO rfl) 2;cases ob;rotate_left
  .go_wp2_with fail;refine Qae (v:=M9 (xL Ke Kf Kg) (xL X9 Ya Yb)) (by simp[results,results125,go_sem,r0,r1,r2,M9]) rfl ?_;have hb:=nJ (a0:=xB true) (a1:=xL Ke Kf Kg) (a2:=xL X9 Ya Yb) bV.o.1 (Qab w);exact⟨⟨_,_,_,_,rfl,(Ua.o (by first|trivial|rfl)).1.ae hb,(Ua.o (by first|trivial|rfl)).2.ae hb⟩,iW.o.ev (Ev.az hb) (hb.block _ HP0.o) (hb.block _ T9.o),ao.az hb⟩
  .clear x0 x1 x2 r0 r1 r2 f0 f1 f2;go_upto_region 6 with fail;have⟨W4,hW4⟩:=bY (wc.alloc (uU false () ()));have ek:=ag (show Bx w [uU false () (),R6 k v] W4 by rw[hW4];exact bV.o.alloc _);have Rf:=ag (show dk W4 wc (uU false () ())by rw[hW4];exact Qbh wc _);have Yc:W4.heap.size=[wc]:=by rw[hW4];simp
   have yJ:w.heap.size+2<=wc:=bV.o.bQ;unfold uU at hW4;rw[<-hW4];clear hW4 HX;generalize hVV:wc.heap.size=V at*;have Rf:=ag (show bW W4 V (uU false () ())by first|exact Rf.o|(rw[<-hVV];exact Rf.o));clear hVV;have c0:=(ak (dD.o W4 ek.o.1).1).1;have⟨q0,q1,q2⟩:=zB.o W4 ek.o.1;have q0':=λo=>(zB.o (W4.alloc o) (ek.o.alloc o).1).1;have q1':=λo=>(zB.o (W4.alloc o) (ek.o.alloc o).1).2.1;have q2':=λo=>(zB.o (W4.alloc o) (ek.o.alloc o).1).2.2;have c0':=λo=>(ak (dD.o (W4.alloc o) (ek.o.alloc o).1).1).1;go_upto_region 8 with fail;clear q0' q1' q2' c0' q0 q1 q2 c0;have⟨W7,hW7⟩:=bY (W4.alloc (cP l.au.ai (xL fa l.au.ah.length fc) (xL ca l.aw.length cc)));have mA:=ag (show Bx w [uU false () (),R6 k v] W7 by rw[hW7];exact ek.o.alloc _);have Wu:=ag (show bW W7 V (uU false () ())by rw[hW7];exact(bU.block V (by omega)).trans Rf.o);have HL7:=ag (show bW W7 (V+1) (cP l.au.ai (xL fa l.au.ah.length fc) (xL ca l.aw.length cc))by rw[hW7,<-Yc];exact Qbh W4 _);have hz7:W7=V+2:=by rw[hW7];simp[Yc]
   unfold cP at hW7;rw[<-hW7];clear hW7;have⟨y0,y1,y2⟩:=aO HL7.o;have TD:Hd (∀t,ab (Ex M w (V+2)) (W7.alloc (xK #[l.au.ai,xL fa l.au.ah.length fc,xL ca l.aw.length cc] t)) (xL (V+2,0) 1 1) [l]):=λt=>by
    have hb:aC w (W7.alloc (xK #[l.au.ai,xL fa l.au.ah.length fc,xL ca l.aw.length cc] t)):=(mA.o.alloc _).1;refine row_one (t:=t) (by rw[<-hz7];exact Qbh W7 _) (λh=> ?_) (jq.o.ev (tT _ hb)) (yM.o.ev (tT _ hb)) qW.o;rcases h with h|h
    .have:=lF.o _ h;omega
    .omega
   have HA7:Hd (∀o,ab (Ex M w (V+2)) (W7.alloc o) (xL (V+2,0) 1 1) [l]->_):=λo hu=>uh.o (V+2) (W7.alloc o) _ (mA.o.alloc o).1 (by simp[hz7]) (by omega) hu;go_wp2_with fail;refine(HA7.o _ (TD.o _)).mono ?_;rintro e w8⟨_,rfl,⟨fv,rfl,hsl⟩,Be⟩;obtain⟨ga,gc,rfl,_⟩:=hsl.aq;have S7:aC W7 w8:=bU.trans (Be.mono (by simp));have QE:=ag (mA.o.ae (S7.mono bT));have HV8:=ag ((S7.block V (by omega)).trans Wu.o);have HL8:=ag ((S7.block (V+1) (by omega)).trans HL7.o);have X3:=ag hsl;have hz8:V+3<=w8:=by have:=Be.size;simp[hz7]at this;omega
   clear Be hsl S7 y0 y1 y2;have v0:=λo=>aj ((((Qbg _ w8).alloc bT o).block V (by omega)).trans HV8.o) 0;have v1:=λo=>aj ((((Qbg _ w8).alloc bT o).block V (by omega)).trans HV8.o) 1;have v2:=λo=>aO ((((Qbg _ w8).alloc bT o).block V (by omega)).trans HV8.o);have hVl:V<w8:=by omega
   have qgk:V+1<w8:=by omega
   go_upto_region 11 with fail;clear v0 v1 v2;have⟨W10,hW10⟩:=bY ((w8.setCell (V,0) true).alloc (cW l.au.ai (xL ga (aT l v).ah.length gc)));have hO8:ao (λi=>i=V) w8 W10:=by rw[hW10];exact((ao.refl (λi=>i=V) w8).setCell (.inl rfl) _).alloc _
   have qap:W10.heap.size=[w8]:=by rw[hW10];simp
   have uz:Hd (Bx w [uU false () (),R6 k v] W10):=QE.o.only hO8 (by rintro i rfl;simp;omega);have S8:=ag (show bW W10 V (uU true () ())by rw[hW10];exact(((Qbg _ (w8.setCell (V,0) true)).alloc bT _).block V (by simp;omega)).trans (Qca w8 V 0 _ _ _ HV8.o));have qdz:Hd (bW W10 (V+1) (cP l.au.ai (xL fa l.au.ah.length fc) (xL ca l.aw.length cc))):=hO8.at_ HL8.o (by omega);have I7:=ag (show dk W10 w8 (cW l.au.ai (xL ga (aT l v).ah.length gc))by
    rw[hW10];have:=Qbh (w8.setCell (V,0) true) (cW l.au.ai (xL ga (aT l v).ah.length gc));simpa using this);have Wy:Hd (ab (Ex M w (V+2)) W10 (xL ga (aT l v).ah.length gc) (aT l v).ah):=X3.o.ev ⟨hO8.mono (λi hi=> .inr ⟨by omega,by omega⟩),λj hj=> .inl hj⟩;unfold cW at hW10;rw[<-hW10];clear hW10 hO8;generalize hCC:w8.heap.size=C at*;have I7:=ag (show bW W10 C (cW l.au.ai (xL ga (aT l v).ah.length gc))by first|exact I7.o|(rw[<-hCC];exact I7.o));clear hCC;have⟨y0,y1⟩:=ak I7.o;have v0:=λo=>aj ((((Qbg _ W10).alloc bT o).block V (by omega)).trans S8.o) 0;have v1:=λo=>aj ((((Qbg _ W10).alloc bT o).block V (by omega)).trans S8.o) 1;have v2:=λo=>aO ((((Qbg _ W10).alloc bT o).block V (by omega)).trans S8.o);have qgl:V<W10:=by omega
   go_upto_region 12 with fail;clear v0 v1 v2 y0 y1;have⟨W11,hW11⟩:=bY ((W10.setCell (V,1) (xL (C+1,0) 1 1)).alloc (xK #[l.au.ai,xL ga (aT l v).ah.length gc,()] 72));have QF:ao (λi=>i=V) W10 W11:=by rw[hW11];exact((ao.refl (λi=>i=V) W10).setCell (.inl rfl) _).alloc _
   have qaq:W11=C+2:=by rw[hW11];simp[qap]
   have Wz:Hd (Bx w [uU false () (),R6 k v] W11):=uz.o.only QF (by rintro i rfl;simp;omega);have WB:=ag (show bW W11 V (uU true (xL (C+1,0) 1 1) ())by rw[hW11];exact(((Qbg _ (W10.setCell (V,1) (xL (C+1,0) 1 1))).alloc bT _).block V (by simp;omega)).trans (Qca W10 V 1 _ _ _ S8.o));have qar:Hd (bW W11 (V+1) (cP l.au.ai (xL fa l.au.ah.length fc) (xL ca l.aw.length cc))):=QF.at_ qdz.o (by omega);have WC:Hd (bW W11 C (cW l.au.ai (xL ga (aT l v).ah.length gc))):=QF.at_ I7.o (by omega);have qd0:Hd (ab (Ex M w (V+2)) W11 (xL ga (aT l v).ah.length gc) (aT l v).ah):=Wy.o.ev ⟨QF.mono (λi hi=> .inr ⟨by omega,by omega⟩),λj hj=> .inl hj⟩;have S9:=ag (show bW W11 (C+1) (xK #[l.au.ai,xL ga (aT l v).ah.length gc,()] 72)by
    rw[hW11];have:=Qbh (W10.setCell (V,1) (xL (C+1,0) 1 1)) (xK #[l.au.ai,xL ga (aT l v).ah.length gc,()] 72);simpa [qap]using this);rw[<-hW11];clear hW11 QF;have qgm:V<W11:=by omega
   have⟨y0,y1⟩:=ak WC.o;have y0':=λo=>(ak ((((Qbg _ W11).alloc bT o).block C (by omega)).trans WC.o)).1;have y1':=λo=>(ak ((((Qbg _ W11).alloc bT o).block C (by omega)).trans WC.o)).2;have z2:=(aO qar.o).2.2;have z2':=λo=>(aO ((((Qbg _ W11).alloc bT o).block (V+1) (by omega)).trans qar.o)).2.2;have v0:=λo=>aj ((((Qbg _ W11).alloc bT o).block V (by omega)).trans WB.o) 2;have v2:=λo=>aO ((((Qbg _ W11).alloc bT o).block V (by omega)).trans WB.o);have⟨_,_,ecc,hlc,hmc,_⟩:=yM.o.aq;cases ecc;have j0:(0:Int)<=(v:Int):=Qba _;have j1:(v:Int)<=(l.aw.length:Int):=by omega
   have j2:v<=cc:=by omega
   go_cut [](λwx=>∃ap cp,Hd (ab M w (xL ap (l.aw.length-v) cp) (l.aw.drop v))/\wx=((W11.alloc (xK #[l.au.ai,xL ga (aT l v).ah.length gc,xL ap (l.aw.length-v) cp] 72)).setCell (V,2) (xL (C+2,0) 1 1)).drew);case first=>
    go_region_law fail;all_goals go_wp2_with fail
    all_goals go_meet
    all_goals
     have hfr:=MO.o;rw[show aD.size aN=8 from rfl]at hfr;by_cases hcv:cc=v
     .rw[if_pos hcv,show cc-v=0 from by omega]at hfr;first
       |exact⟨_,_,ag hfr,rfl⟩
       |(exfalso;omega)
       |(exfalso;simp_all;done)
     .rw[if_neg hcv]at hfr;first
       |exact⟨_,_,ag hfr,rfl⟩
       |(exfalso;omega)
       |(exfalso;simp_all;done)
   case rest=>
    obtain⟨ap,cp,Nd,hwx⟩:=hcut;clear v0 v2 y0 y1 y0' y1' z2 z2';have hX:ao (λi=>i=V) W11 wc:=by rw[hwx];exact(((ao.refl (λi=>i=V) W11).alloc _).setCell (.inl rfl) _).drewN 1
    have qgn:wc=C+3:=by rw[hwx];show((W11.alloc _).setCell _ _).heap.size=_;simp[qaq]
    have mn:Hd (Bx w [uU false () (),R6 k v] wc):=Wz.o.only hX (by rintro i rfl;simp;omega);have WE:=ag (show bW wc V (uU true (xL (C+1,0) 1 1) (xL (C+2,0) 1 1))by
     rw[hwx];exact Qca _ V 2 _ _ _ ((bU.block V (by omega)).trans WB.o));have qd1:=ag (show bW wc (C+2) (xK #[l.au.ai,xL ga (aT l v).ah.length gc,xL ap (l.aw.length-v) cp] 72)by
     rw[hwx,<-qaq];exact(Qag _ _ _ _ (by simp;omega)).trans (Qbh W11 _));have qas:Hd (ab (Ex M w (V+2)) wc (xL ga (aT l v).ah.length gc) (aT l v).ah):=qd0.o.ev ⟨hX.mono (λi hi=> .inr ⟨by omega,by omega⟩),λj hj=> .inl hj⟩;have qat:Hd (ab (Ex M w (V+2)) wc (xL (C+2,0) 1 1) [eD l v]):=row_one (l:=eD l v) (t:=72) (by show bW wc (C+2) (xK #[xS (aT l v).ai,_,_] 72);rw[XK.o.ai v];exact qd1.o) (λh=>by
     rcases h with h|h
     .have:=lF.o _ h;omega
     .omega) qas.o (by
     exact Nd.o.ev (tT _ mn.o.1)) (by show(aT l v).ai.size<=_;rw[XK.o.ai v];exact qW.o);have Ub:Hd (ab (Ex M w (V+2)) wc (xL (C+1,0) 1 1) [jV l v]):=row_one (l:=jV l v) (t:=72) (by show bW wc (C+1) (xK #[xS (aT l v).ai,_,_] 72);rw[XK.o.ai v];exact hX.at_ S9.o (by omega)) (λh=>by
     rcases h with h|h
     .have:=lF.o _ h;omega
     .omega) qas.o (ab.nil _ _) (by show(aT l v).ai.size<=_;rw[XK.o.ai v];exact qW.o);have hMP:bP Hz wc b es clk:=(dD.o wc mn.o.1).2;have⟨wa,ea,ma,oa⟩:=bP.RX Hz underlying205 sG BY hMP ((k:Int),(v:Int)) (M9 (.slice (C+1,0) 1 1) (.slice (C+2,0) 1 1)) (Wx.o (by first|trivial|rfl));have⟨wb,eb,mb,ob⟩:=bP.RX (w:=wc.drew) Hz underlying205 sG BY hMP ((k:Int),(v:Int)) (M9 (.slice (C+1,0) 1 1) (.slice (C+2,0) 1 1)) (Wx.o (by first|trivial|rfl));have Nl:=ag (And.intro ma oa);have zC:=ag (And.intro mb (((ao.refl (λi=>i=b) wc).drewN 1).trans ob));unfold M9 at ea eb;clear hwx hX hMP ma mb oa ob;have g1:=(ak (dD.o wc mn.o.1).1).2;have⟨d0,d1⟩:=ak (mn.o.cg rfl);have⟨v0,v1,v2⟩:=aO WE.o;have⟨wr,hwr⟩:=bY (wc);rw[<-hwr]at Nl zC mn WE qat Ub;have FH:=ag hwr;clear hwr;go_upto_region 13 with fail;go_cut [](λwx=>Hd (bP Hz wx b (es++[(((k:Int),(v:Int)),M9 (xL (C+1,0) 1 1) (xL (C+2,0) 1 1),clk)]) (clk+1)/\ao (λi=>i=b) wr wx));case first=>
     go_region_law fail;all_goals go_wp2_with fail
     all_goals go_meet
     all_goals first|exact zC|exact Nl|trace_state
    case rest=>
     have⟨mp,ho⟩:=hcut.o;clear v0 v1 v2 d0 d1 g1 ea eb;have hMB:=T9.o;have hb0:aC w wr:=mn.o.1;have hO:ao (λi=>i=b) w wc:=(ao.az hb0).trans ho;have⟨v0,v1,v2⟩:=aO (ho.at_ WE.o (by omega));have h0:=ho.at_ (mn.o.bO rfl) (by omega);have⟨r0,r1,r2⟩:=aO h0;have⟨f0,f1⟩:=mu h0;have f2:=aj h0 2;have HMP:=ag mp;have HO:=ag hO;have Nn:=ag ho;clear mp hO ho hcut h0;go_wp2_with fail;have oz:ao (λi=>i=w) wc (((wc.setCell (w,0) true).setCell (w,1) (xL (C+1,0) 1 1)).setCell (w,2) (xL (C+2,0) 1 1)):=(((ao.refl (λi=>i=w) wc).setCell (.inl rfl) _).setCell (.inl rfl) _).setCell (.inl rfl) _;have ozw:ao (λi=>i=b) w (((wc.setCell (w,0) true).setCell (w,1) (xL (C+1,0) 1 1)).setCell (w,2) (xL (C+2,0) 1 1)):=((HO.o.setCell (.inr bT) _).setCell (.inr bT) _).setCell (.inr bT) _;have hbM:=hMb;have Uc:=(Ub.o.ev ⟨(Nn.o.mono (T:=Ex M w (V+2)) (λi hi=> .inl (by subst hi;exact hbM))).trans (oz.mono (λi hi=> .inr (by omega))),λi hi=> .inl hi⟩).ev (Ev.dL (N:=M) _ λi hi=> .inl hi);have Ta:=(qat.o.ev ⟨(Nn.o.mono (T:=Ex M w (V+2)) (λi hi=> .inl (by subst hi;exact hbM))).trans (oz.mono (λi hi=> .inr (by omega))),λi hi=> .inl hi⟩).ev (Ev.dL (N:=M) _ λi hi=> .inl hi);refine Qae (v:=M9 (xL (C+1,0) 1 1) (xL (C+2,0) 1 1)) (by simp[results,results125,go_sem,r0,r1,r2,M9]) rfl ⟨⟨_,_,_,_,rfl,Ta,Uc⟩,?_,ozw⟩;refine⟨ozw.at_ iW.o.cell th,iW.o.aK.ev ⟨ozw.mono (λi hi=>by subst hi;exact hbM),λi hi=> .inl hi⟩,_,_,oz.at_ HMP.o (by omega),λx val hx=> ?_⟩;rw[tR _ (Wx.o (by first|trivial|rfl))]at hx;by_cases ZS:x=((k:Int),(v:Int))
     .rw[if_pos ZS]at hx;cases hx;exact⟨k,v,l,_,_,_,_,_,_,ZS,hk,hv,rfl,Ta,Uc⟩
     .rw[if_neg ZS]at hx;have⟨k',v',l',a1,a2,n1,c1,n2,c2,e1,e2,e3,e4,e6,e7⟩:=HES.o _ _ hx;exact⟨k',v',l',a1,a2,n1,c1,n2,c2,e1,e2,e3,e4,e6.ev ⟨ozw.mono (λi hi=>by subst hi;exact hbM),λi hi=> .inl hi⟩,e7.ev ⟨ozw.mono (λi hi=>by subst hi;exact hbM),λi hi=> .inl hi⟩⟩
def Ey {l:aQ}(hl:ee l):dF [l]:=by
 refine⟨by simp,?_,?_⟩
 .intro x hx;rcases Qea.1 hx with rfl;exact hl
 .intro i x hi;match i,hi with
  |0,hi=>simp at hi;subst hi;simp[dx,cq,idxOf]
  |i+1,hi=>simp at hi
def H7(ls:List aQ)(h:dF ls)(k:Nat)(l:aQ)(hk:ls[k]? =some l)(x:bF)(v:Nat)(ay:Int)(hm:ay<=100000)(hc:x.cL=k)(hvv:x.cQ=v)(FL:v<=l.aw.length)(hx:GC ay x)(hv:bA (aT l v).ah ay x.aZ)(M:aV)(w0 w:ax)(hM:Bd M w)(hG:Gd w0)(hb0:aC w0 w)(p b:Nat)(th:p≠b)(hMb:M b)(hb:w0<=b)(sv vv:aA)(hB:jk ls M p b sv w)(hvs:ab M w vv x.aZ):
 xC 56 #[xP p, .agg #[x.id,x.cL,x.cQ,vv]] w λe w'=>(∃us uv,e=xR (.tuple #[.agg #[x.id,k,l.aw.length,uv],true])/\j5 (aT l v) (l.aw.drop v) ay x.aZ us/\ab M w' uv us)/\jk ls M p b sv w'/\ao (λi=>i=b) w w':=by
 have sT:=h.aK l (Qaf hk);have hfr:=sT.from_ v;have HVW:Hd (∀W,aC w W->w.heap.size+2<=W->_):=λW hb1 h2=>JL ls h k l hk v FL (dX M w 2) W (dt hM h2) ((hG.ae hb0).ae hb1) p b th (.inl hMb) sv (hB.ev (dj hb1) (hb1.block _ (Qaa.1 hB.cell).1) (hb1.block _ (hM b hMb)));have WG:Hd (∀W u,aC w0 W->w.heap.size+2<=W->ab (dX M w 2) W u [eD l v]->ab (dX M w 2) W vv x.aZ->xC 126 #[.agg #[u], .agg #[x.id,xI 0,xI 0,vv]] W (cm W λr w'=>∃us uv,r= .tuple #[.agg #[x.id,xI 0,xI ((l.aw.length-v:Nat):Int),uv],xI 0]/\j5 (aT l v) (l.aw.drop v) ay x.aZ us/\ab (dX M w 2) w' uv us)):=λW u h1 h2 h3 h4=>by
  have hh:=Hy [eD l v] (Ey hfr) 0 (eD l v) rfl ⟨x.id,0,0,x.aZ⟩ 0 ay hm rfl rfl (Qbf _) ⟨hx.id1,hx.id2,Int.le_refl _,by show(0:Int)<8;omega,Int.le_refl _,by show(0:Int)<=12;omega,hx.aZ,hx.len⟩ (by rw[oU];exact hv) (dX M w 2) W (dt hM h2) (hG.ae h1) u vv h3 h4;rw[oU,show v+0=v from rfl,show(eD l v).aw.drop 0=l.aw.drop v from rfl,show((eD l v).aw.length:Int)=((l.aw.length-v:Nat):Int)from by simp[eD]]at hh;exact hh
 obtain⟨xi,xc,xv,xs⟩:=x;dsimp only at*;subst hc;subst hvv;obtain⟨va,vc,rfl,_⟩:=hvs.aq;have yS:=ag hvs;have iW:=ag hB;have qX:=ag hb0;have CG:=ag hb;have T9:=ag (hM b hMb);have i0:(0:Int)<=(v:Int):=Qba _;have i1:(v:Int)<=(l.aw.length:Int):=by omega
 have i2:(l.aw.length:Int)<=12:=by have:=sT.len;omega
 have i3:IntKind.i64.wrap (((l.aw.length-v:Nat):Int)+(v:Int))=(l.aw.length:Int):=by
  rw[show((l.aw.length-v:Nat):Int)+(v:Int)=(l.aw.length:Int)from by omega];exact Qbe _ (by omega)
 have cI:=ag (Bx.du w (eh ⟨xi,(k:Int),(v:Int),xs⟩ (xL va xs.length vc)) (eh ⟨0,0,0,[]⟩ ()));have⟨o0,o1,o2,o3⟩:=af (cI.o.bO rfl);clear hvs hB hb0 hb h hG sT hfr hx hv;go_enter func56,ntmps56;go_wp2_with fail;refine(HVW.o _ cI.o.1 cI.o.bQ).mono ?_;rintro e w1⟨⟨Ke,Kf,Kg,s2,rfl,hs2,-⟩,hbk,ho1⟩;obtain⟨a2,c2,rfl,_⟩:=hs2.aq;unfold M9;have hMB:=T9.o;have hz1:w.heap.size+2<=w1:=Qcg (by simp) ho1.size;have Fq:=ag hbk;have gn:=ag hs2;have ho2:ao (λi=>i=b) w w1:=(ao.az cI.o.1).trans ho1;have q9:=ag ho2;have bz:Hd (aC w0 w1):=bq qX.o qX.o.size ho2 (λi hi=>by subst hi;exact CG.o);have MY:Hd (dk w1 w (eh ⟨xi,(k:Int),(v:Int),xs⟩ (xL va xs.length vc))):=ho1.at_ (cI.o.bO rfl) (by omega);have yM:Hd (bW w1 [w] (eh ⟨0,0,0,[]⟩ ())):=ho1.at_ (cI.o.cg rfl) (by omega);have WH:Hd (ab (dX M w 2) w1 (xL va xs.length vc) xs):=(yS.o.ev (dj cI.o.1)).ev ⟨ho1.mono (λi hi=> .inl (by subst hi;exact hMb)),λi hi=> .inl hi⟩;clear o0 o1 o2 o3 hbk hs2 ho1 ho2;have bE:∀o i(h:i<w1.heap.size),(w1.alloc o).heap[i]? =w1.heap[i]? :=λo i h=>((Qbg _ w1).alloc bT o).block i h;have x0:=λo=>af ((bE o w (by omega)).trans MY.o);have f1:=λo=>aj ((bE o w (by omega)).trans MY.o) 1;have f2:=λo=>aj ((bE o w (by omega)).trans MY.o) 2;have bH:w.heap.size<w1:=by omega
 clear bE;go_upto_region 4 with fail;go_quiet(fail);go_upto_region 6 with fail;clear x0 f1 f2;have⟨W6,hW6⟩:=bY ((((w1.alloc (uU true (xL Ke Kf Kg) (xL a2 1 c2))).drewN nq).setCell (w,1) (xI 0)).setCell (w,2) (xI 0));have O6:ao (λi=>i=w) w1 W6:=by rw[hW6];exact((((ao.refl (λi=>i=w) w1).alloc _).drewN nq).setCell (.inl rfl) _).setCell (.inl rfl) _
 have hz6:W6.heap.size=[w1]:=by
  rw[hW6];have:((w1.alloc (uU true (xL Ke Kf Kg) (xL a2 1 c2))).drewN nq).heap.size=[w1]:=by show(w1.alloc _).heap.size=_;simp
  simp[this]
 have HD0:=ag (show dk W6 w (eh ⟨xi,0,0,xs⟩ (xL va xs.length vc))by
  rw[hW6];exact Qca _ _ 2 _ _ _ (Qca _ _ 1 _ _ _ ((bU.block w (by omega)).trans MY.o)));have S5:=ag (show dk W6 w1 (uU true (xL Ke Kf Kg) (xL a2 1 c2))by
  rw[hW6];exact(Qag _ _ _ _ (by simp;omega)).trans ((Qag _ _ _ _ (by simp;omega)).trans (Qbh w1 _)));have HD1:Hd (bW W6 [w] (eh ⟨0,0,0,[]⟩ ())):=O6.at_ yM.o (by omega);have kE:Hd (aC w0 W6):=bq bz.o bz.o.size O6 (λi hi=>by subst hi;exact qX.o.size);have e6:Ev (dX M w 2) w1 (dX M w 2) W6:=⟨O6.mono (λi hi=> .inr ⟨by omega,by omega⟩),λi hi=> .inl hi⟩;have ux:=ag (gn.o.ev e6);have WI:=ag (WH.o.ev e6);have QY:=ag O6;have bI:=ag (WG.o W6 _ kE.o (by omega) ux.o WI.o);unfold uU at hW6;rw[<-hW6];clear hW6 O6 e6;have⟨x0,x1,x2,x3⟩:=af HD0.o;have⟨y0,y1,y2⟩:=aO S5.o;go_wp2_with fail;refine(bI.o).mono ?_;rintro e w7⟨_,rfl,⟨us,uv,rfl,QD,hsl⟩,gP⟩;obtain⟨ya,yc,rfl,_⟩:=hsl.aq;have S6:=ag QD;have gO:=ag hsl;have mA:=ag gP;have hz7:w1.heap.size+1<=w7:=by have:=gP.size;omega
 have HE1:=ag ((gP.block _ (by omega)).trans HD1.o);clear x0 x1 x2 x3 y0 y1 y2 QD hsl gP;have hl1:w.heap.size+1<w7:=by omega
 go_upto_region 11 with fail;have⟨WA,hWA⟩:=bY (w7.alloc (eh ⟨xi,(k:Int),(l.aw.length:Int),us⟩ (xL ya us.length yc)));have hba:aC w7 WA:=by rw[hWA];exact bU
 have HXA:=ag (show dk WA w7 (eh ⟨xi,(k:Int),(l.aw.length:Int),us⟩ (xL ya us.length yc))by rw[hWA];exact Qbh w7 _);have hEA:=(hba.block _ hl1).trans HE1.o;have Z7:=ag hba;unfold eh at hWA;rw[<-hWA];clear hWA hba;have⟨x0,x1,x2,x3⟩:=af HXA.o;have⟨r0,r1,r2,r3⟩:=af hEA;have⟨g0,g1,g2,g3⟩:=hZ hEA;clear hEA;go_wp2_with fail;have hp:=(Qaa.1 iW.o.cell).1;have o0:ao (λi=>i=w\/i=[w]) w1 WA:=(QY.o.mono (λi hi=> .inl hi)).trans (ao.az (mA.o.trans (Z7.o.mono mA.o.size)));have o1:=(((o0.setCell (p:=⟨[w],0,none⟩) (.inl (.inr rfl)) xi).setCell (p:=⟨[w],1,none⟩) (.inl (.inr rfl)) k).setCell (p:=⟨[w],2,none⟩) (.inl (.inr rfl)) l.aw.length).setCell (p:=⟨[w],3,none⟩) (.inl (.inr rfl)) (xL ya us.length yc);have o7:=((((ao.az (S:=dX M w 2) Z7.o).setCell (p:=⟨[w],0,none⟩) (.inl (.inr ⟨by simp,by simp⟩)) xi).setCell (p:=⟨[w],1,none⟩) (.inl (.inr ⟨by simp,by simp⟩)) k).setCell (p:=⟨[w],2,none⟩) (.inl (.inr ⟨by simp,by simp⟩)) l.aw.length).setCell (p:=⟨[w],3,none⟩) (.inl (.inr ⟨by simp,by simp⟩)) (xL ya us.length yc);refine Qae (v:= .tuple #[.agg #[xi,k,l.aw.length,xL ya us.length yc],true]) (by simp[results,results56,go_sem,r0,r1,r2,r3]) rfl ⟨⟨_,_,rfl,S6.o,?_⟩,?_,?_⟩
 .exact(gO.o.ev ⟨o7,λi hi=> .inl hi⟩).ev (Ev.dL _ λi hi=> .inl hi)
 .exact(Fq.o.ev ⟨o1.mono (λi hi=> .inr (by omega)),λi hi=> .inl hi⟩ (o1.block p (by omega) (by omega)) (o1.block b (by omega) (by omega))).ev (Ev.dL _ λi hi=> .inl hi) rfl rfl
 .exact q9.o.cV o1 (λi hi bH=>by omega)
def U5(hj:aC W2 W)(hb:Below (W.alloc o).heap.size (W.alloc o) w'):w'.heap[W.heap.size]? =some o/\W2.heap.size<=W:=⟨(hb.block _ (by simp)).trans (Qbh W o),hj.size⟩
def YS(hj:aC W2 W)(hb:Below (W.alloc o).drew.heap.size (W.alloc o).drew w'):w'.heap[W.heap.size]? =some o/\W2.heap.size<=W:=⟨(hb.block _ (by show W.heap.size<(W.alloc o).heap.size;simp)).trans (Qbh W o),hj.size⟩
def YT(hj:aC W2 W)(hb:Below (W.drew.alloc o).heap.size (W.drew.alloc o) w'):w'.heap[W.heap.size]? =some o/\W2.heap.size<=W:=⟨(hb.block _ (by show W.heap.size<(W.alloc o).heap.size;simp)).trans (Qbh W.drew o),hj.size⟩
def zdB(h:bW W K o/\W2<=K)(hb:aC W w'):w'.heap[K]? =some o/\W2<=K:=⟨(hb.block K (Qaa.1 h.1).1).trans h.1,h.2⟩
def U6(hb:Below (W.alloc o).heap.size (W.alloc o) w'):aC W w':=((Qbg _ W).alloc bT o).trans (hb.mono (by simp))
def YU(hb:Below (W.alloc o).drew.heap.size (W.alloc o).drew w'):aC W w':=((Qbg _ W).alloc bT o).drew.trans (hb.mono (by show W.heap.size<=(W.alloc o).heap.size;simp))
def YV(hb:Below (W.drew.alloc o).heap.size (W.drew.alloc o) w'):aC W w':=((Qbg _ W).drew.alloc bT o).trans (hb.mono (by show W.heap.size<=(W.alloc o).heap.size;simp))
def U7(hb:Below W.drew.heap.size W.drew w'):aC W w':=(Qbg _ W).drew.trans hb
def U8(M:aV)(w W2:ax)(nm:aY)(fs:List aH)(K:Nat)(ya:fx)(yc:Nat)(wx:ax):Prop:=
 wx.heap[K]? =some (cW nm (xL ya fs.length yc))/\ab (dX M w 2) wx (xL ya fs.length yc) fs/\aC W2 wx/\W2<=K
def U9 {fs:List aH}(hb:aC W2 w3)(hs:ab (dX M w 2) w3 (xL ya fs.length yc) fs):
 U8 M w W2 nm fs w3 ya yc (w3.alloc (xK #[nm,xL ya fs.length yc] 47)):=
 ⟨Qbh w3 _,hs.ev ((Ev.refl _ _).alloc _),hb.alloc hb.size _,hb.size⟩
def Va {fs:List aH}(hb:aC W2 w3)(hs:ab (λi=>dX M w 2 i\/i=K) w3 (xL ya fs.length yc) fs)(hz:bW w3 K (cW () ())/\W2<=K):
 U8 M w W2 nm fs K ya yc ((w3.setCell (K,0) nm).setCell (K,1) (xL ya fs.length yc)):=
 ⟨rN hz.1 _ _,(hs.ev (((Ev.refl _ _).setCell (.inl (.inr rfl)) _).setCell (.inl (.inr rfl)) _)).ev (Ev.dL _ λi hi=> .inl hi),(hb.setCell (p:=⟨K,0,none⟩) hz.2 _).setCell (p:=⟨K,1,none⟩) hz.2 _,hz.2⟩
def qce {P:aV}{w4:ax}{α:Type} [aD α]{xs:List α}(h:bW w3 K o/\W2<=K)(hb:aC w3 w4)(hs:ab (λi=>P i\/(W2<=i/\i<w3)) w4 v xs):(bW w4 K o/\W2<=K)/\ab (λi=>P i\/i=K) w4 v xs:=
 ⟨zdB h hb,hs.ev (Ev.dL _ λi hi=>hi.imp_right λe=>by subst e;exact⟨h.2,(Qaa.1 h.1).1⟩)⟩
def qcf {P:aV}{w4:ax}{α:Type} [aD α]{xs:List α}(hj:aC W2 w3)(hb:Below (w3.alloc o).heap.size (w3.alloc o) w4)(hs:ab (λi=>P i\/(W2<=i/\i<(w3.alloc o).heap.size)) w4 v xs):(dk w4 w3 o/\W2.heap.size<=w3)/\ab (λi=>P i\/i=w3) w4 v xs:=
 ⟨U5 hj hb,hs.ev (Ev.dL _ λi hi=>hi.imp_right λe=>by subst e;exact⟨hj.size,by simp⟩)⟩
def qcg {w4:ax}(hj:aC W2 w3)(hb:Below (w3.alloc o).heap.size (w3.alloc o) w4):aC W2 w4:=hj.trans ((U6 hb).mono hj.size)
def qch {w4:ax}(hj:aC W2 w3)(hb:aC w3 w4):aC W2 w4:=hj.trans (hb.mono hj.size)
def EC(l:aQ)(h1:dF [l])(x:bF)(ay:Int)(hm:ay<=100000)(hc:x.cL=0)(hvv:x.cQ=0)(hx:GC ay x)(hv:bA (aT l 0).ah ay x.aZ)(M:aV)(w:ax)(hM:Bd M w)(hG:Gd w)(sv vv:aA)(hs:ab M w sv [l])(hvs:ab M w vv x.aZ):
 xC 150 #[.agg #[sv], .agg #[x.id,x.cL,x.cQ,vv]] w (cu true w):=by
 have sT:=h1.aK l (by simp);have CC:=gQ (w:=w) (λW hb=>mW [l] h1 M W (hM.ae hb) (hG.tb.ae hb) sv (hs.ae hb));have VX:=gQ (w:=w) (λW hb=>Dp x ay hm hx M W (hM.ae hb) vv (hvs.ae hb) (hG.tb.ae hb));have HA:Hd (∀(N:aV)W,aC w W->(∀i,N i->M i\/w.heap.size<=i)->xC 186 #[.agg #[sv],xI 0] W (cm W λv w'=>∃u,v= .agg #[u]/\ab N w' u [l])):=λN W hb hN=>Ew [l] 0 l rfl (by simp) N W sv (hs.ev ⟨ao.az hb,hN⟩);have uh:Hd (∀(W2 W:ax)u,aC w W->w.heap.size+2<=W->ab (λi=>dX M w 2 i\/W2<=i) W u [l]->xC 139 #[.agg #[u],xI 0,xI 0] W (cm W λv w'=>∃jK,v= .tuple #[.agg #[l.au.ai,jK],xI 0]/\ab (λi=>dX M w 2 i\/(W2<=i/\i<W)) w' jK (aT l 0).ah)):=λW2 W u hb h2 hu=>Hw [l] h1 0 l rfl 0 (Qbf _) (λi=>dX M w 2 i\/(W2<=i/\i<W.heap.size)) W (λi hi=>by
  rcases hi with(hi|hi)|hi
  .have:=hM i hi;have:=hb.size;omega
  .omega
  .exact hi.2) (hG.tb.ae hb) u (hu.ev (Ev.dL _ λi hi=>hi.imp_right λe=>e.1));have om:Hd (∀W fv,aC w W->ab (dX M w 2) W fv (aT l 0).ah->_):=λW fv hb hf=>ik (aT l 0) (sT.kA 0).right (by rw[sT.ai 0];have⟨_,_,_,_,_,_,_,_,_,_,_,h,_⟩:=eL hs (k:=0) rfl;exact h) ay hm x.aZ hv (dX M w 2) W fv vv hf (hvs.ev (dj hb)) (hG.tb.ae hb);have hnm:=sT.ai 0;obtain⟨a,cj,rfl,cY,hmx,_⟩:=hs.aq;obtain⟨va,vc,rfl,_⟩:=hvs.aq;obtain⟨xi,xc,xv,xs⟩:=x;dsimp only at*;subst hc;subst hvv;rw[hnm]at om;have HM:=ag hM;have cI:=ag (Bx.du w (eW (xL a [l].length cj)) (eh ⟨xi,0,0,xs⟩ (xL va xs.length vc)));have c0:=one_cell (cI.o.bO rfl);have⟨o0,o1,o2,o3⟩:=af (cI.o.cg rfl);simp only[Qcc,Qcd,Nat.zero_add]at*;go_enter func150,ntmps150;go_wp2_with fail;refine cC (CC.o _ cI.o.1) λw1 hb1=> ?_;have bz:=ag (cI.o.ae hb1);have c0:=one_cell (bz.o.bO rfl);have⟨o0,o1,o2,o3⟩:=af (bz.o.cg rfl);go_wp2_with fail;refine cC (VX.o _ bz.o.1) λw2 bE=> ?_;have bg:=ag (bz.o.ae bE);have c0:=one_cell (bg.o.bO rfl);have⟨o0,o1,o2,o3⟩:=af (bg.o.cg rfl);go_upto_region 6 with fail;have dD:Hd (∀W,aC w2 W->ou W w 0 (xL a 1 cj)/\yY W w 1 (xI 0)/\yY W w 2 (xI 0)):=λW hb=>by
  have h:=bg.o.ae hb;have h4:=af (h.cg rfl);exact⟨one_cell (h.bO rfl),h4.2.1,h4.2.2.1⟩
 have fZ:Hd (aC w w2):=bg.o.1;have yV:Hd (w.heap.size+2<=w2):=bg.o.bQ;have HJ:Hd (aC w2 w2):=dS;have zA:Hd (∀i,(dX M w 2 i\/w2.heap.size<=i)->M i\/w.heap.size<=i):=λi hi=>by
  have h1:=yV.o;rcases hi with(hi|hi)|hi
  .exact .inl hi
  .right;omega
  .right;omega
 go_cut [7,8](λs7 s8 wx=>∃(K:Nat)(ya:fx)(yc:Nat),s7=xP K/\s8=xI 0/\Hd (U8 M w w2 l.au.ai (aT l 0).ah K ya yc wx));case first=>
  go_region_held3(λw'=>w'.cell? (w,0)=some (xL a 1 cj)/\w'.cell? ([w],1)=some (xI 0)/\w'.cell? ([w],2)=some (xI 0))
   (with_reducible first|exact dD.o _ rh.o|exact dD.o _ dP.o|exact dD.o _ dP.o.drew|exact dD.o _ HJ.o|exact dD.o _ HJ.o.drew|exact dD.o _ (dP.o.alloc dP.o.size _)|exact dD.o _ (HJ.o.alloc HJ.o.size _)|exact dD.o _ (HJ.o.alloc HJ.o.size _).drew|exact dD.o _ (HJ.o.drew.alloc HJ.o.size _)|exact dD.o _ (rh.o.alloc rh.o.size _)|exact dD.o _ ((rh.o.setCell Ud.o.1.2 _).setCell Ud.o.1.2 _)|fail)
   (first
     |(go_at_call 186;refine(HA.o (λi=>dX M w 2 i\/w2<=i) _ (by with_reducible first|exact fZ.o.drew|exact fZ.o|exact fZ.o.alloc fZ.o.size _|exact(fZ.o.alloc fZ.o.size _).drew|exact fZ.o.drew.alloc fZ.o.size _) zA.o).mono ?_;rintro e w3⟨_,rfl,⟨u,rfl,hu⟩,hb3⟩;obtain⟨a1,c1,rfl,_⟩:=hu.aq;have HU:Hd (ab (λi=>dX M w 2 i\/w2<=i) w3 (xL a1 1 c1) [l]):=hu;try(with_reducible(have Ct:=ag (U5 HJ.o hb3)))
       try(with_reducible(have Ct:=ag (YS HJ.o hb3)))
       try(with_reducible(have Ct:=ag (YT HJ.o hb3)))
       have dP:Hd (aC w2 w3):=(by with_reducible first|exact ag hb3|exact ag (U7 hb3)|exact ag (U6 hb3)|exact ag (YU hb3)|exact ag (YV hb3));clear hb3 hu)
     |(go_at_call 139;first
       |(with_reducible refine(uh.o w2 _ _ (fZ.o.trans (dP.o.mono fZ.o.size)) (Qcg yV.o dP.o.size) HU.o).mono ?_)
       |(with_reducible refine(uh.o w2 _ _ ((fZ.o.trans (dP.o.mono fZ.o.size)).alloc (Qcg fZ.o.size dP.o.size) _) (Qcg (Qcg yV.o dP.o.size) (by simp)) (HU.o.ae bU)).mono ?_)
       |fail
       rintro e w4⟨_,rfl,⟨fv,rfl,hf⟩,eA⟩;obtain⟨ya,yc,rfl,-⟩:=hf.aq;have IZ:=ag (ab.ev hf (Ev.dL (N:=dX M w 2) _ λi hi=> .inl hi));try(with_reducible(have Ud:=ag (qce Ct.o eA hf)))
       try(with_reducible(have Ud:=ag (qcf dP.o eA hf)))
       try(have g0:=aj Ud.o.1.1 0)
       try(have g1:=aj Ud.o.1.1 1)
       try(have hq:=ak Ud.o.1.1)
       have rh:Hd (aC w2 w4):=(by with_reducible first|exact ag (qch dP.o eA)|exact ag (qcg dP.o eA));clear eA hf)
     |fail);all_goals(go_wp2;go_meet)
  all_goals first
   |exact⟨_,_,_,rfl,rfl,ag (Va rh.o Ud.o.2 Ud.o.1)⟩
   |exact⟨_,_,_,rfl,rfl,ag (U9 rh.o IZ.o)⟩
   |trace_state
 case rest=>
  obtain⟨K,ya,yc,rfl,rfl,HC⟩:=hcut;have⟨hC1,hC2,hC3,hC4⟩:=HC.o;have bV:=ag (bg.o.ae hC3);have⟨d0,d1⟩:=ak hC1;have⟨o0,o1,o2,o3⟩:=af (bV.o.cg rfl);have HF:=ag hC2;go_wp2_with fail;refine cC (om.o _ _ bV.o.1 HF.o) λw4 eA=> ?_;have ek:=ag (bV.o.ae eA);go_wp2;go_ret;exact⟨rfl,ek.o.1⟩
def Ic {l:aQ}(h:ee l)(v:Nat):ee (jV l v):=⟨h.kA v,by simp[jV],_, .nil _⟩
def Ie(l:aQ)(v:Nat):aT (jV l v) 0=aT l v:=rfl
def LR(ls:List aQ)(h:dF ls)(k:Nat)(l:aQ)(hk:ls[k]? =some l)(x:bF)(v:Nat)(ay:Int)(hm:ay<=100000)(hc:x.cL=k)(hvv:x.cQ=v)(FL:v<=l.aw.length)(hx:GC ay x)(hv:bA (aT l v).ah ay x.aZ)(M:aV)(w0 w:ax)(hM:Bd M w)(hG:Gd w0)(hb0:aC w0 w)(p b:Nat)(th:p≠b)(hMb:M b)(hb:w0<=b)(sv vv:aA)(hB:jk ls M p b sv w)(hvs:ab M w vv x.aZ):
 xC 82 #[xP p, .agg #[x.id,x.cL,x.cQ,vv]] w λe w'=>e=xR true/\jk ls M p b sv w'/\ao (λi=>i=b) w w':=by
 have sT:=h.aK l (Qaf hk);have HVW:Hd (∀W,aC w W->w.heap.size+1<=W->_):=λW hb1 h2=>JL ls h k l hk v FL (dX M w 1) W (dt hM h2) ((hG.ae hb0).ae hb1) p b th (.inl hMb) sv (hB.ev (dj hb1) (hb1.block _ (Qaa.1 hB.cell).1) (hb1.block _ (hM b hMb)));have WG:Hd (∀W u,aC w0 W->w.heap.size+1<=W->ab (dX M w 1) W u [jV l v]->ab (dX M w 1) W vv x.aZ->xC 150 #[.agg #[u], .agg #[x.id,xI 0,xI 0,vv]] W (cu true W)):=λW u h1 h2 h3 h4=>
  EC (jV l v) (Ey (Ic sT v)) ⟨x.id,0,0,x.aZ⟩ ay hm rfl rfl ⟨hx.id1,hx.id2,Int.le_refl _,by show(0:Int)<8;omega,Int.le_refl _,by show(0:Int)<=12;omega,hx.aZ,hx.len⟩ (by rw[Ie];exact hv) (dX M w 1) W (dt hM h2) (hG.ae h1) u vv h3 h4;obtain⟨xi,xc,xv,xs⟩:=x;dsimp only at*;subst hc;subst hvv;obtain⟨va,vc,rfl,_⟩:=hvs.aq;have yS:=ag hvs;have iW:=ag hB;have qX:=ag hb0;have CG:=ag hb;have T9:=ag (hM b hMb);have cI:=ag (Bx.eI w (eh ⟨xi,(k:Int),(v:Int),xs⟩ (xL va xs.length vc)));have⟨o0,o1,o2,o3⟩:=af (cI.o.bO rfl);clear hvs hB hb0 hb h hG sT hx hv;go_enter func82,ntmps82;go_wp2_with fail;refine(HVW.o _ cI.o.1 cI.o.bQ).mono ?_;rintro e w1⟨⟨Ke,Kf,Kg,s2,rfl,hs2,hs1⟩,hbk,ho1⟩;obtain⟨a2,c2,rfl,_⟩:=hs2.aq;unfold M9;have hMB:=T9.o;have hz1:w.heap.size+1<=w1:=Qcg (by simp) ho1.size;have Fq:=ag hbk;have qL:=ag hs1;have ho2:ao (λi=>i=b) w w1:=(ao.az cI.o.1).trans ho1;have q9:=ag ho2;have bz:Hd (aC w0 w1):=bq qX.o qX.o.size ho2 (λi hi=>by subst hi;exact CG.o);have MY:Hd (dk w1 w (eh ⟨xi,(k:Int),(v:Int),xs⟩ (xL va xs.length vc))):=ho1.at_ (cI.o.bO rfl) (by omega);have WH:Hd (ab (dX M w 1) w1 (xL va xs.length vc) xs):=(yS.o.ev (dj cI.o.1)).ev ⟨ho1.mono (λi hi=> .inl (by subst hi;exact hMb)),λi hi=> .inl hi⟩;clear o0 o1 o2 o3 hbk hs2 hs1 ho1 ho2;go_upto_region 2 with fail;have⟨W5,hW5⟩:=bY (w1.alloc (uU true (xL Ke Kf Kg) (xL a2 1 c2)));have iL:aC w1 W5:=by rw[hW5];exact bU
 have XP:Hd (dk W5 w (eh ⟨xi,(k:Int),(v:Int),xs⟩ (xL va xs.length vc))):=(iL.block w (by omega)).trans MY.o;have S4:=ag (show dk W5 w1 (uU true (xL Ke Kf Kg) (xL a2 1 c2))by rw[hW5];exact Qbh w1 _);have hz5:W5.heap.size=[w1]:=by rw[hW5];simp
 have Cm:Hd (ao (λi=>i=w) w1 W5):=ao.az iL;unfold uU at hW5;rw[<-hW5];clear hW5 iL;have⟨x0,x1,x2,x3⟩:=af XP.o;have f1:=aj XP.o 1;have f2:=aj XP.o 2;go_upto_region 3 with fail;clear x0 x1 x2 x3 f1 f2;have⟨W6,hW6⟩:=bY ((W5.setCell (w,1) (xI 0)).setCell (w,2) (xI 0));have O6:ao (λi=>i=w) w1 W6:=by rw[hW6];exact(Cm.o.setCell (.inl rfl) _).setCell (.inl rfl) _
 have hz6:W6.heap.size=[w1]:=by rw[hW6];simp[hz5]
 have HD0:=ag (show dk W6 w (eh ⟨xi,0,0,xs⟩ (xL va xs.length vc))by
  rw[hW6];exact Qca _ _ 2 _ _ _ (Qca _ _ 1 _ _ _ XP.o));have S5:=ag (show dk W6 w1 (uU true (xL Ke Kf Kg) (xL a2 1 c2))by
  rw[hW6];exact(Qag _ _ _ _ (by simp;omega)).trans ((Qag _ _ _ _ (by simp;omega)).trans S4.o));have kE:Hd (aC w0 W6):=bq bz.o bz.o.size O6 (λi hi=>by subst hi;exact qX.o.size);have e6:Ev (dX M w 1) w1 (dX M w 1) W6:=⟨O6.mono (λi hi=> .inr ⟨by omega,by omega⟩),λi hi=> .inl hi⟩;have ux:=ag (qL.o.ev e6);have WI:=ag (WH.o.ev e6);have QY:=ag O6;have bI:=ag (WG.o W6 _ kE.o (by omega) ux.o WI.o);rw[<-hW6];clear hW6 O6 e6;have⟨x0,x1,x2,x3⟩:=af HD0.o;have⟨y0,y1,y2⟩:=aO S5.o;go_wp2_with fail;refine cC (bI.o) λw7 gP=> ?_;have mA:=ag gP;clear x0 x1 x2 x3 y0 y1 y2 gP;go_wp2_with fail;have hp:=(Qaa.1 iW.o.cell).1;have o1:ao (λi=>i=w) w1 w7:=QY.o.trans (ao.az mA.o);go_ret;refine⟨rfl,?_,?_⟩
 .exact(Fq.o.ev ⟨o1.mono (λi hi=> .inr (by omega)),λi hi=> .inl hi⟩ (o1.block p (by omega) (by omega)) (o1.block b (by omega) (by omega))).ev (Ev.dL _ λi hi=> .inl hi) rfl rfl
 .exact q9.o.cV o1 (λi hi bH=>by omega)
end Go.Proofs.YtepaofffbkfodaaGreatDoor
